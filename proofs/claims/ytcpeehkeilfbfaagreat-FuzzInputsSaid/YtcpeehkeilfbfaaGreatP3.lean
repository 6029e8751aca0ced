/- Parts C8, S2, C9, C10, Au, Aw, Ax, D1, S3, Ay, Az, Ba, D2, S4, D3: a logic over abstract states, contracts of the code and plain laws, made from the texts in wip by wip/tools/pack.py. -/
import Derived.Test.YtcpeehkeilfbfaaGreatP2
set_option linter.unusedSimpArgs false
set_option linter.unusedVariables false
namespace Go.AL
open Go.Proofs
theorem graph_rows {f : Fn} (hf : f.Fits) : ∀ l ∈ graphR f, l.length < 1000000 := by
  intro l hl
  obtain ⟨b, hb, rfl⟩ := List.mem_map.1 hl
  unfold lastTo
  cases h : b.getLast? with
  | none => simp
  | some x => exact (hf.inst b hb x (List.mem_of_getLast? h)).to
theorem e48 : Enters Tryz.prog 48 := enters_of Tryz.func48 (by kernel_rfl) (by kernel_rfl)
set_option maxRecDepth 100000 in
set_option maxHeartbeats 4000000 in
theorem c48 (a b : List Int) (hlen : a.length < 1000000) : Ok Tryz.prog 48 [.dat none (.sl 1 (ints a)), .dat none (.sl 1 (ints b))] [] (.v (.bool (a == b))) [] := by
  refine ok_of e48 Tryz.func48 rfl (by kernel_rfl) ?_
  intro cx hP hro hN hvk
  obtain ⟨P, ro, w0, Bin, N, R0, tk0, bl0, vk⟩ := cx
  subst hP hro hN
  have hvkd := vkd_of hvk
  refine aw_seq ?_
  refine aw_region ?_
  refine al_op rfl rfl rfl (opP_assign rfl (ev_const rfl)) ?_
  refine al_nil ?_
  refine aw_seq ?_
  refine aw_seq ?_
  refine aw_region ?_
  refine al_op rfl rfl rfl (opP_move rfl (ev_tmp rfl)) ?_
  refine al_op rfl rfl rfl (opP_len rfl u22 (ev_tmp rfl) (by first | exact lenA_ints | exact lenA_map | rfl)) ?_
  refine al_op rfl rfl rfl (opP_move rfl (ev_tmp rfl)) ?_
  refine al_op rfl rfl rfl (opP_len rfl u22 (ev_tmp rfl) (by first | exact lenA_ints | exact lenA_map | rfl)) ?_
  refine al_op rfl rfl rfl (opP_bin rfl (ev_tmp rfl) (ev_tmp rfl) rfl) ?_
  refine al_nil ?_
  refine aw_cond rfl (fun h1 => ?_) (fun h1 => ?_)
  · have hne : (a == b) = false := by
      simp at h1
      simp; intro e; subst e; exact h1 rfl
    refine aw_seq ?_
    refine aw_region ?_
    refine al_op rfl rfl rfl (opP_assign rfl (ev_const rfl)) ?_
    refine al_nil ?_
    refine aw_ret ?_
    rw [hne]
    exact ret_id _ (.tmp rfl .nil) rfl trivial rfl rfl
  have hab : a.length = b.length := by simp at h1; omega
  refine aw_skip ?_
  refine aw_seq ?_
  refine aw_seq ?_
  refine aw_region ?_
  refine al_op rfl rfl rfl (opP_assign rfl (ev_const rfl)) ?_
  refine al_nil ?_
  refine aw_block ?_
  refine aw_loop' (α := Nat) (fun i => [(0, .dat none (.sl 1 (ints a))), (1, .dat none (.sl 1 (ints b))), (5, .v (.int .i64 i))]) (fun i => []) (fun i => i ≤ a.length ∧ a.take i = b.take i) (fun i => a.length - i) 0 ⟨Nat.zero_le _, by simp⟩ id (Fit.of (by first | exact trivial | exact ⟨rfl, trivial⟩ | exact ⟨rfl, rfl, trivial⟩ | exact ⟨rfl, rfl, rfl, trivial⟩ | exact ⟨rfl, rfl, rfl, rfl, trivial⟩) (by repeat (first | exact trivial | refine ⟨rfl, ?_⟩)) rfl rfl) ?_
  rintro i ⟨hi, htk⟩
  refine aw_seq ?_
  refine aw_seq ?_
  refine aw_region ?_
  refine al_op rfl rfl rfl (opP_move rfl (ev_tmp rfl)) ?_
  refine al_op rfl rfl rfl (opP_move rfl (ev_tmp rfl)) ?_
  refine al_op rfl rfl rfl (opP_len rfl u22 (ev_tmp rfl) (by first | exact lenA_ints | exact lenA_map | rfl)) ?_
  refine al_op rfl rfl rfl (opP_bin rfl (ev_tmp rfl) (ev_tmp rfl) rfl) ?_
  refine al_nil ?_
  refine aw_condS rfl (fun h2 => ?_) (fun h2 => ?_)
  · have hge : ¬ i < a.length := by simpa using h2
    have hyes : (a == b) = true := by
      have e1 : i = a.length := by omega
      subst e1
      rw [List.take_length, hab, List.take_length] at htk
      simp [htk]
    refine aw_exit ?_
    refine aw_seq ?_
    refine aw_region ?_
    refine al_op rfl rfl rfl (opP_assign rfl (ev_const rfl)) ?_
    refine al_nil ?_
    refine aw_ret ?_
    rw [hyes]
    exact ret_id _ (.tmp rfl .nil) rfl trivial rfl rfl
  have hia : i < a.length := by simpa using h2
  have hib : i < b.length := by omega
  refine aw_skip ?_
  refine aw_seq ?_
  refine aw_block ?_
  refine aw_seq ?_
  refine aw_draw mixed ?_
  apply ad_phase' [⟨0, 17, _, [], []⟩, ⟨1, 18, _, [], []⟩, ⟨2, 19, _, [0, 1], []⟩, ⟨3, 20, _, [0, 1, 2], []⟩, ⟨4, 21, _, [], []⟩, ⟨5, 22, _, [], []⟩, ⟨6, 23, _, [4, 5], []⟩, ⟨7, 24, _, [4, 5, 6], []⟩, ⟨8, 25, _, [0, 1, 2, 3, 4, 5, 6, 7], []⟩] [] (fuelT := 0)
  · skip
    refine .cons rfl (stepD_op rfl (opP_move rfl (ev_tmp rfl))) ?_
    refine .cons rfl (stepD_op rfl (opP_move rfl (ev_tmp rfl))) ?_
    refine .cons rfl (stepD_op rfl (opP_index_dat rfl u22 s3 (ev_tmp rfl) (ev_tmp rfl) (fun _ => Int.natCast_nonneg _) (fun _ => ints_get hia))) ?_
    refine .cons rfl (stepD_op rfl (opP_load_pr rfl u3 rfl (ev_tmp rfl))) ?_
    refine .cons rfl (stepD_op rfl (opP_move rfl (ev_tmp rfl))) ?_
    refine .cons rfl (stepD_op rfl (opP_move rfl (ev_tmp rfl))) ?_
    refine .cons rfl (stepD_op rfl (opP_index_dat rfl u22 s3 (ev_tmp rfl) (ev_tmp rfl) (fun _ => Int.natCast_nonneg _) (fun _ => ints_get hib))) ?_
    refine .cons rfl (stepD_op rfl (opP_load_pr rfl u3 rfl (ev_tmp rfl))) ?_
    refine .cons rfl (stepD_op rfl (opP_bin rfl (ev_tmp rfl) (ev_tmp rfl) rfl)) ?_
    exact .nil
  · exact .no rfl (.no rfl (.no rfl (.no rfl (.no rfl (.no rfl (.no rfl (.no rfl (.no rfl (.nil)))))))))
  · rfl
  · rfl
  · rfl
  · rfl
  · exact fun c s h => h
  · exact hvkd _ rfl
  · rfl
  refine ad_done rfl ?_
  refine aw_condS rfl (fun h3 => ?_) (fun h3 => ?_)
  · have heq : a[i] = b[i] := by simpa using h3
    refine aw_skip ?_
    refine aw_region ?_
    refine al_op rfl rfl rfl (opP_move rfl (ev_tmp rfl)) ?_
    refine al_op rfl rfl rfl (opP_bin rfl (ev_tmp rfl) (ev_const rfl) rfl) ?_
    refine al_op rfl rfl rfl (opP_assign rfl (ev_tmp rfl)) ?_
    refine al_nil ?_
    refine ⟨i + 1, id, ⟨hia, ?_⟩, by omega, Fit.of trivial ⟨rfl, rfl, by rw [← wrapS (by omega)]; rfl, trivial⟩ rfl rfl⟩
    rw [List.take_succ_eq_append_getElem hia, List.take_succ_eq_append_getElem hib, htk, heq]
  have hne : (a == b) = false := by
    simp at h3
    simp; intro e; subst e; exact h3 rfl
  refine aw_seq ?_
  refine aw_region ?_
  refine al_op rfl rfl rfl (opP_assign rfl (ev_const rfl)) ?_
  refine al_nil ?_
  refine aw_ret ?_
  rw [hne]
  exact ret_id _ (.tmp rfl .nil) rfl trivial rfl rfl
theorem e44 : Enters Tryz.prog 44 := enters_of Tryz.func44 (by kernel_rfl) (by kernel_rfl)
set_option maxRecDepth 100000 in
set_option maxHeartbeats 4000000 in
theorem c44 (f : Fn) (hf : f.Fits) : Ok Tryz.prog 44 [.dat none (fnD f)] [] (.v (.bool (rulesR f))) [] := by
  refine ok_of e44 Tryz.func44 rfl (by kernel_rfl) ?_
  intro cx hP hro hN hvk
  obtain ⟨P, ro, w0, Bin, N, R0, tk0, bl0, vk⟩ := cx
  subst hP hro hN
  have hvkd := vkd_of hvk
  refine aw_seq ?_
  refine aw_region ?_
  refine al_opc (k := 101) rfl rfl rfl ((hvk _).trans rfl) (opC_box rfl (ev_tmp rfl) rfl) ?_
  refine al_op rfl rfl rfl (opP_assign rfl (ev_const rfl)) ?_
  refine al_nil ?_
  refine aw_seq ?_
  refine aw_seq ?_
  refine aw_region ?_
  refine al_op rfl rfl rfl (opP_assign rfl (ev_const rfl)) ?_
  refine al_nil ?_
  refine aw_block ?_
  refine aw_loop' (α := Nat) (fun b => [(1, .pt 101 0), (3, .v (.int .i64 b))]) (fun b => [(101, .var [.dat none (.sl 1 (ints f.params)), .v (.int .i64 f.ret), .dat none (.sl 1 (ints f.slots)), .dat none (.sl 1 (f.blocks.map instsD))])]) (fun b => b ≤ f.blocks.length ∧ (f.blocks.take b).all blockOk = true) (fun b => f.blocks.length - b) 0 ⟨Nat.zero_le _, rfl⟩ id (Fit.of ⟨rfl, trivial⟩ ⟨rfl, rfl, trivial⟩ rfl rfl) ?_
  rintro b ⟨hb, hok⟩
  refine aw_seq ?_
  refine aw_seq ?_
  refine aw_region ?_
  refine al_op rfl rfl rfl (opP_move rfl (ev_tmp rfl)) ?_
  refine al_op rfl rfl rfl (opP_fieldAddr rfl (ev_tmp rfl) u27 rfl rfl s25 rfl) ?_
  refine al_op rfl rfl rfl (opP_load_pt rfl u25 rfl (ev_tmp rfl) rfl rfl) ?_
  refine al_op rfl rfl rfl (opP_len rfl u25 (ev_tmp rfl) (by first | exact lenA_ints | exact lenA_map | rfl)) ?_
  refine al_op rfl rfl rfl (opP_bin rfl (ev_tmp rfl) (ev_tmp rfl) rfl) ?_
  refine al_nil ?_
  refine aw_cond rfl (fun h1 => ?_) (fun h1 => ?_)
  · have hbf := hf.blocks
    have hbl : b < f.blocks.length := by simpa using h1
    have hbi := hf.insts _ (List.getElem_mem hbl)
    refine aw_skip ?_
    refine aw_seq ?_
    refine aw_block ?_
    refine aw_seq ?_
    refine aw_region ?_
    refine al_op rfl rfl rfl (opP_fieldAddr rfl (ev_tmp rfl) u27 rfl rfl s25 rfl) ?_
    refine al_op rfl rfl rfl (opP_load_pt rfl u25 rfl (ev_tmp rfl) rfl rfl) ?_
    refine al_op rfl rfl rfl (opP_move rfl (ev_tmp rfl)) ?_
    refine al_op rfl rfl rfl (opP_index_dat rfl u25 s35 (ev_tmp rfl) (ev_tmp rfl) (fun _ => Int.natCast_nonneg _) (fun _ => blocks_get hbl)) ?_
    refine al_op rfl rfl rfl (opP_load_pr rfl u35 rfl (ev_tmp rfl)) ?_
    refine al_op rfl rfl rfl (opP_assign rfl (ev_tmp rfl)) ?_
    refine al_nil ?_
    refine aw_seq ?_
    refine aw_seq ?_
    refine aw_region ?_
    refine al_op rfl rfl rfl (opP_move rfl (ev_tmp rfl)) ?_
    refine al_op rfl rfl rfl (opP_len rfl u35 (ev_tmp rfl) (by first | exact lenA_ints | exact lenA_map | rfl)) ?_
    refine al_op rfl rfl rfl (opP_bin rfl (ev_tmp rfl) (ev_const rfl) rfl) ?_
    refine al_nil ?_
    refine aw_cond rfl (fun h2 => ?_) (fun h2 => ?_)
    · refine aw_seq ?_
      refine aw_region ?_
      refine al_op rfl rfl rfl (opP_assign rfl (ev_const rfl)) ?_
      refine al_nil ?_
      refine aw_ret ?_
      have e : rulesR f = false := by
        have : f.blocks.all blockOk = false := List.all_eq_false.2 ⟨f.blocks[b], List.getElem_mem hbl, by simp at h2; simp [blockOk, h2]⟩
        unfold rulesR; rw [this]; rfl
      rw [e]; exact ret_id _ (.tmp rfl .nil) rfl trivial rfl rfl
    have hl1 : 0 < f.blocks[b].length := by
      rcases Nat.eq_zero_or_pos f.blocks[b].length with h0 | h0
      · rw [h0] at h2; exact absurd h2 (by decide)
      · exact h0
    have hl0 : (f.blocks[b].length != 0) = true := by simp only [bne_iff_ne]; omega
    have hw : IntKind.i64.wrap (((f.blocks[b].length : Nat) : Int) - 1) = (f.blocks[b].length : Int) - 1 := wrapI ⟨by omega, by omega⟩
    refine aw_skip ?_
    refine aw_seq ?_
    refine aw_region ?_
    refine al_op rfl rfl rfl (opP_assign rfl (ev_const rfl)) ?_
    refine al_nil ?_
    refine aw_block ?_
    refine aw_loop' (α := Nat) (fun i => [(1, .pt 101 0), (3, .v (.int .i64 b)), (4, .dat none (instsD f.blocks[b])), (5, .v (.int .i64 i))]) (fun i => [(101, .var [.dat none (.sl 1 (ints f.params)), .v (.int .i64 f.ret), .dat none (.sl 1 (ints f.slots)), .dat none (.sl 1 (f.blocks.map instsD))])]) (fun i => i ≤ f.blocks[b].length ∧ ((List.range i).all fun j => !(layBadD f.blocks[b] j)) = true) (fun i => f.blocks[b].length - i) 0 ⟨Nat.zero_le _, rfl⟩ id (Fit.of ⟨rfl, trivial⟩ ⟨rfl, rfl, rfl, rfl, trivial⟩ rfl rfl) ?_
    rintro i ⟨hi, hall⟩
    refine aw_seq ?_
    refine aw_seq ?_
    refine aw_region ?_
    refine al_op rfl rfl rfl (opP_move rfl (ev_tmp rfl)) ?_
    refine al_op rfl rfl rfl (opP_move rfl (ev_tmp rfl)) ?_
    refine al_op rfl rfl rfl (opP_len rfl u35 (ev_tmp rfl) (by first | exact lenA_ints | exact lenA_map | rfl)) ?_
    refine al_op rfl rfl rfl (opP_bin rfl (ev_tmp rfl) (ev_tmp rfl) rfl) ?_
    refine al_nil ?_
    refine aw_condS rfl (fun h3 => ?_) (fun h3 => ?_)
    · refine aw_exit ?_
      refine aw_region ?_
      refine al_op rfl rfl rfl (opP_move rfl (ev_tmp rfl)) ?_
      refine al_op rfl rfl rfl (opP_bin rfl (ev_tmp rfl) (ev_const rfl) rfl) ?_
      refine al_op rfl rfl rfl (opP_assign rfl (ev_tmp rfl)) ?_
      refine al_nil ?_
      refine ⟨b + 1, id, ⟨hbl, ?_⟩, by omega, Fit.of ⟨rfl, trivial⟩ ⟨rfl, by rw [← wrapS (by omega)]; rfl, trivial⟩ rfl rfl⟩
      have e : i = f.blocks[b].length := by simp at h3; omega
      subst e
      rw [List.take_succ_eq_append_getElem hbl, List.all_append, hok]; simp only [blockOk, List.all_cons, List.all_nil, hall, hl0]; simp
    have hil : i < f.blocks[b].length := by simpa using h3
    refine aw_skip ?_
    refine aw_seq ?_
    refine aw_block ?_
    refine aw_seq ?_
    refine aw_seq ?_
    refine aw_region ?_
    refine al_op rfl rfl rfl (opP_move rfl (ev_tmp rfl)) ?_
    refine al_op rfl rfl rfl (opP_move rfl (ev_tmp rfl)) ?_
    refine al_op rfl rfl rfl (opP_index_dat rfl u35 s38 (ev_tmp rfl) (ev_tmp rfl) (fun _ => Int.natCast_nonneg _) (fun _ => insts_get hil)) ?_
    refine al_op rfl rfl rfl (opP_fieldAddr rfl (ev_tmp rfl) u38 rfl rfl s3 rfl) ?_
    refine al_op rfl rfl rfl (opP_load_pr rfl u3 rfl (ev_tmp rfl)) ?_
    refine al_call (id) rfl rfl rfl (callOf_func rfl (.cons (ev_tmp rfl) .nil)) (c87 f.blocks[b][i].op) (by repeat' (first | refine Vw.stDOf ?_ | refine Vw.ptOf rfl rfl rfl ?_ | refine Vw.prvOf ?_ | refine Vw.cloOf ?_ | constructor)) (fun _ h => absurd h (by simp)) rfl rfl rfl (fun _ h => absurd h (by simp)) ?_
    refine al_op rfl rfl rfl (opP_move rfl (ev_tmp rfl)) ?_
    refine al_op rfl rfl rfl (opP_move rfl (ev_tmp rfl)) ?_
    refine al_op rfl rfl rfl (opP_len rfl u35 (ev_tmp rfl) (by first | exact lenA_ints | exact lenA_map | rfl)) ?_
    refine al_op rfl rfl rfl (opP_bin rfl (ev_tmp rfl) (ev_const rfl) rfl) ?_
    refine al_op rfl rfl rfl (opP_bin rfl (ev_tmp rfl) (ev_tmp rfl) rfl) ?_
    refine al_op rfl rfl rfl (opP_neb rfl u4 (ev_tmp rfl) (ev_tmp rfl)) ?_
    refine al_nil ?_
    refine aw_cond rfl (fun h4 => ?_) (fun h4 => ?_)
    · refine aw_seq ?_
      refine aw_region ?_
      refine al_op rfl rfl rfl (opP_assign rfl (ev_const rfl)) ?_
      refine al_nil ?_
      refine aw_ret ?_
      have e : rulesR f = false := by
        have hbad : layBadD f.blocks[b] i = true := by
          rw [hw] at h4
          have h4' : (isLastR f.blocks[b][i].op != ((i : Int) == ((f.blocks[b].length : Int) - 1))) = true := h4
          simp only [layBadD, dif_pos hil, layBad]; rw [h4']; rfl
        have : f.blocks.all blockOk = false := List.all_eq_false.2 ⟨f.blocks[b], List.getElem_mem hbl, by
          have : ((List.range f.blocks[b].length).all fun j => !(layBadD f.blocks[b] j)) = false := List.all_eq_false.2 ⟨i, List.mem_range.2 hil, by rw [hbad]; simp⟩
          simp [blockOk, this]⟩
        unfold rulesR; rw [this]; rfl
      rw [e]; exact ret_id _ (.tmp rfl .nil) rfl trivial rfl rfl
    have hwi : (i : Int) > 0 → IntKind.i64.wrap ((i : Int) - 1) = ((i - 1 : Nat) : Int) := fun hp => by rw [wrapI ⟨by omega, by omega⟩]; omega
    have hprev : (i : Int) > 0 → (f.blocks[b].map instD)[(IntKind.i64.wrap ((i : Int) - 1)).toNat]? = some (instD (f.blocks[b][i - 1]'(by omega))) := fun hp => by rw [hwi hp]; simp only [Int.toNat_natCast]; exact insts_get (by omega)
    have hnn : (i : Int) > 0 → 0 ≤ IntKind.i64.wrap ((i : Int) - 1) := fun hp => by rw [hwi hp]; exact Int.natCast_nonneg _
    refine aw_skip ?_
    refine aw_seq ?_
    refine aw_region ?_
    refine al_op rfl rfl rfl (opP_move rfl (ev_tmp rfl)) ?_
    refine al_op rfl rfl rfl (opP_bin rfl (ev_tmp rfl) (ev_const rfl) rfl) ?_
    refine al_op rfl rfl rfl (opP_move rfl (ev_tmp rfl)) ?_
    refine al_opg rfl rfl rfl rfl rfl rfl (opP_move rfl (ev_tmp rfl)) ?_
    refine al_opg rfl rfl rfl rfl rfl rfl (opP_move rfl (ev_tmp rfl)) ?_
    refine al_opg rfl rfl rfl rfl rfl rfl (opP_index_dat rfl u35 s38 (ev_when rfl id) (ev_when rfl id) (fun _ => Int.natCast_nonneg _) (fun _ => insts_get hil)) ?_
    refine al_opg rfl rfl rfl rfl rfl rfl (opP_fieldAddr rfl (ev_when rfl id) u38 rfl rfl s3 rfl) ?_
    refine al_opg rfl rfl rfl rfl rfl rfl (opP_load_pr rfl u3 rfl (ev_when rfl id)) ?_
    refine al_opg rfl rfl rfl rfl rfl rfl (opP_bin rfl (ev_when rfl id) (ev_const rfl) rfl) ?_
    refine al_op rfl rfl rfl (opP_and rfl (ev_tmp rfl) (ev_when rfl id)) ?_
    refine al_op rfl rfl rfl (opP_move rfl (ev_tmp rfl)) ?_
    refine al_opg rfl rfl rfl rfl rfl rfl (opP_move rfl (ev_tmp rfl)) ?_
    refine al_opg rfl rfl rfl rfl rfl rfl (opP_move rfl (ev_tmp rfl)) ?_
    refine al_opg rfl rfl rfl rfl rfl rfl (opP_bin rfl (ev_when rfl id) (ev_const rfl) rfl) ?_
    refine al_opg rfl rfl rfl rfl rfl rfl (opP_index_dat rfl u35 s38 (ev_when rfl id) (ev_when rfl id) (fun (gd : (decide ((i : Int) > 0) && f.blocks[b][i].op == 28) = true) => hnn (by simp at gd; omega)) (fun (gd : (decide ((i : Int) > 0) && f.blocks[b][i].op == 28) = true) => hprev (by simp at gd; omega))) ?_
    refine al_opg rfl rfl rfl rfl rfl rfl (opP_fieldAddr rfl (ev_when rfl id) u38 rfl rfl s3 rfl) ?_
    refine al_opg rfl rfl rfl rfl rfl rfl (opP_load_pr rfl u3 rfl (ev_when rfl id)) ?_
    refine al_opg rfl rfl rfl rfl rfl rfl (opP_bin rfl (ev_when rfl id) (ev_const rfl) rfl) ?_
    refine al_op rfl rfl rfl (opP_and rfl (ev_tmp rfl) (ev_when rfl id)) ?_
    refine al_nil ?_
    refine aw_condS rfl (fun h5 => ?_) (fun h5 => ?_)
    · refine aw_skip ?_
      refine aw_region ?_
      refine al_op rfl rfl rfl (opP_move rfl (ev_tmp rfl)) ?_
      refine al_op rfl rfl rfl (opP_bin rfl (ev_tmp rfl) (ev_const rfl) rfl) ?_
      refine al_op rfl rfl rfl (opP_assign rfl (ev_tmp rfl)) ?_
      refine al_nil ?_
      refine ⟨i + 1, id, ⟨hil, ?_⟩, by omega, Fit.of ⟨rfl, trivial⟩ ⟨rfl, rfl, rfl, by rw [← wrapS (by omega)]; rfl, trivial⟩ rfl rfl⟩
      rw [List.range_succ, List.all_append, hall]
      rw [hw] at h4
      have h4' : (isLastR f.blocks[b][i].op != ((i : Int) == ((f.blocks[b].length : Int) - 1))) = false := h4
      have h5' : (decide ((i : Int) > 0) && f.blocks[b][i].op == 28 && (f.blocks[b][i - 1]'(by omega)).op != 28) = false := h5
      simp only [List.all_cons, List.all_nil, layBadD, dif_pos hil, layBad]
      rw [h4', h5']; rfl
    refine aw_seq ?_
    refine aw_region ?_
    refine al_op rfl rfl rfl (opP_assign rfl (ev_const rfl)) ?_
    refine al_nil ?_
    refine aw_ret ?_
    have e : rulesR f = false := by
      have hbad : layBadD f.blocks[b] i = true := by
        rw [hw] at h4
        have h4' : (isLastR f.blocks[b][i].op != ((i : Int) == ((f.blocks[b].length : Int) - 1))) = false := h4
        simp only [layBadD, dif_pos hil, layBad]; rw [h4', Bool.false_or]; exact h5
      have : f.blocks.all blockOk = false := List.all_eq_false.2 ⟨f.blocks[b], List.getElem_mem hbl, by
        have : ((List.range f.blocks[b].length).all fun j => !(layBadD f.blocks[b] j)) = false := List.all_eq_false.2 ⟨i, List.mem_range.2 hil, by rw [hbad]; simp⟩
        simp [blockOk, this]⟩
      unfold rulesR; rw [this]; rfl
    rw [e]; exact ret_id _ (.tmp rfl .nil) rfl trivial rfl rfl
  have e : b = f.blocks.length := by simp at h1; omega
  subst e
  rw [List.take_length] at hok
  have hne := blockOk_ne hok
  have hg1 : (graphR f).length < 1000000 := by rw [graph_len]; exact hf.blocks
  have hg2 := graph_rows hf
  refine aw_exit ?_
  refine aw_seq ?_
  refine aw_region ?_
  refine al_op rfl rfl rfl (opP_load_ptn rfl u27 rfl s27 (ev_tmp rfl) rfl rfl) ?_
  refine al_call (id) rfl rfl rfl (callOf_func rfl (.cons (ev_tmp rfl) .nil)) (c88 f hf hne) (by repeat' (first | refine Vw.stDOf ?_ | refine Vw.ptOf rfl rfl rfl ?_ | refine Vw.prvOf ?_ | refine Vw.cloOf ?_ | constructor)) (fun _ h => absurd h (by simp)) rfl rfl rfl (fun p hp => .inr ((hvk _).trans (by simp at hp; subst hp; rfl))) ?_
  refine al_op rfl rfl rfl (opP_assign rfl (ev_tmp rfl)) ?_
  refine al_nil ?_
  refine aw_seq ?_
  refine aw_seq ?_
  refine aw_region ?_
  refine al_op rfl rfl rfl (opP_move rfl (ev_tmp rfl)) ?_
  refine al_call (id) rfl rfl rfl (callOf_func rfl (.cons (ev_tmp rfl) (.cons (ev_const rfl) .nil))) (c89 (graphR f) 0 hg1 hg2) (.cons (Vw.row _ _ _ _ _ _ rfl rfl (by simp [graph_len]) (by simp [graph_len, List.take_of_length_le])) (.cons (Vw.v _) .nil)) (fun _ h => absurd h (by simp)) rfl rfl rfl (fun p hp => .inr ((hvk _).trans (by simp at hp; subst hp; rfl))) ?_
  refine al_op rfl rfl rfl (opP_len rfl u22 (ev_tmp rfl) (by first | exact lenA_ints | exact lenA_map | rfl)) ?_
  refine al_op rfl rfl rfl (opP_bin rfl (ev_tmp rfl) (ev_const rfl) rfl) ?_
  refine al_nil ?_
  refine aw_cond rfl (fun h6 => ?_) (fun h6 => ?_)
  · refine aw_seq ?_
    refine aw_region ?_
    refine al_op rfl rfl rfl (opP_assign rfl (ev_const rfl)) ?_
    refine al_nil ?_
    refine aw_ret ?_
    have e : rulesR f = false := by unfold rulesR; simp at h6; simp [show (beforeR (graphR f) 0).length ≠ 0 by omega]
    rw [e]; exact ret_id _ (.tmp rfl .nil) rfl trivial rfl rfl
  have hb0 : ((beforeR (graphR f) 0).length == 0) = true := by simp at h6; simp [h6]
  refine aw_skip ?_
  refine aw_seq ?_
  refine aw_seq ?_
  refine aw_region ?_
  refine al_op rfl rfl rfl (opP_assign rfl (ev_const rfl)) ?_
  refine al_nil ?_
  refine aw_block ?_
  refine aw_loop' (α := Nat) (fun b => [(1, .pt 101 0), (6, .row 88001 1 0 f.blocks.length), (7, .v (.int .i64 b))]) (fun b => [(101, .var [.dat none (.sl 1 (ints f.params)), .v (.int .i64 f.ret), .dat none (.sl 1 (ints f.slots)), .dat none (.sl 1 (f.blocks.map instsD))]), (88001, .row 1 ((graphR f).map rowD))]) (fun b => b ≤ f.blocks.length ∧ ((List.range b).all (phisOk f)) = true) (fun b => f.blocks.length - b) 0 ⟨Nat.zero_le _, rfl⟩ id (Fit.of ⟨rfl, rfl, trivial⟩ ⟨rfl, rfl, rfl, trivial⟩ rfl rfl) ?_
  rintro b ⟨hb, hph⟩
  refine aw_seq ?_
  refine aw_seq ?_
  refine aw_region ?_
  refine al_op rfl rfl rfl (opP_move rfl (ev_tmp rfl)) ?_
  refine al_op rfl rfl rfl (opP_fieldAddr rfl (ev_tmp rfl) u27 rfl rfl s25 rfl) ?_
  refine al_op rfl rfl rfl (opP_load_pt rfl u25 rfl (ev_tmp rfl) rfl rfl) ?_
  refine al_op rfl rfl rfl (opP_len rfl u25 (ev_tmp rfl) (by first | exact lenA_ints | exact lenA_map | rfl)) ?_
  refine al_op rfl rfl rfl (opP_bin rfl (ev_tmp rfl) (ev_tmp rfl) rfl) ?_
  refine al_nil ?_
  refine aw_condS rfl (fun h7 => ?_) (fun h7 => ?_)
  · refine aw_exit ?_
    refine aw_seq ?_
    refine aw_region ?_
    refine al_op rfl rfl rfl (opP_assign rfl (ev_const rfl)) ?_
    refine al_nil ?_
    refine aw_ret ?_
    have e : rulesR f = true := by
      have e : b = f.blocks.length := by simp at h7; omega
      subst e; unfold rulesR; rw [hok, hb0, hph]; rfl
    rw [e]; exact ret_id _ (.tmp rfl .nil) rfl trivial rfl rfl
  have hbf := hf.blocks
  have hbl : b < f.blocks.length := by simpa using h7
  have hbi := hf.insts _ (List.getElem_mem hbl)
  refine aw_skip ?_
  refine aw_seq ?_
  refine aw_block ?_
  refine aw_seq ?_
  refine aw_region ?_
  refine al_op rfl rfl rfl (opP_assign rfl (ev_const rfl)) ?_
  refine al_nil ?_
  refine aw_block ?_
  refine aw_loop' (α := Nat) (fun i => [(1, .pt 101 0), (6, .row 88001 1 0 f.blocks.length), (7, .v (.int .i64 b)), (8, .v (.int .i64 i))]) (fun i => [(101, .var [.dat none (.sl 1 (ints f.params)), .v (.int .i64 f.ret), .dat none (.sl 1 (ints f.slots)), .dat none (.sl 1 (f.blocks.map instsD))]), (88001, .row 1 ((graphR f).map rowD))]) (fun i => i ≤ f.blocks[b].length ∧ ((f.blocks[b].take i).all (phiOk f b)) = true) (fun i => f.blocks[b].length - i) 0 ⟨Nat.zero_le _, rfl⟩ id (Fit.of ⟨rfl, rfl, trivial⟩ ⟨rfl, rfl, rfl, rfl, trivial⟩ rfl rfl) ?_
  rintro i ⟨hi, hpi⟩
  refine aw_seq ?_
  refine aw_seq ?_
  refine aw_region ?_
  refine al_op rfl rfl rfl (opP_move rfl (ev_tmp rfl)) ?_
  refine al_op rfl rfl rfl (opP_fieldAddr rfl (ev_tmp rfl) u27 rfl rfl s25 rfl) ?_
  refine al_op rfl rfl rfl (opP_load_pt rfl u25 rfl (ev_tmp rfl) rfl rfl) ?_
  refine al_op rfl rfl rfl (opP_move rfl (ev_tmp rfl)) ?_
  refine al_op rfl rfl rfl (opP_index_dat rfl u25 s35 (ev_tmp rfl) (ev_tmp rfl) (fun _ => Int.natCast_nonneg _) (fun _ => blocks_get hbl)) ?_
  refine al_op rfl rfl rfl (opP_load_pr rfl u35 rfl (ev_tmp rfl)) ?_
  refine al_op rfl rfl rfl (opP_len rfl u35 (ev_tmp rfl) (by first | exact lenA_ints | exact lenA_map | rfl)) ?_
  refine al_op rfl rfl rfl (opP_bin rfl (ev_tmp rfl) (ev_tmp rfl) rfl) ?_
  refine al_nil ?_
  refine aw_condS rfl (fun h8 => ?_) (fun h8 => ?_)
  · refine aw_exit ?_
    refine aw_region ?_
    refine al_op rfl rfl rfl (opP_move rfl (ev_tmp rfl)) ?_
    refine al_op rfl rfl rfl (opP_bin rfl (ev_tmp rfl) (ev_const rfl) rfl) ?_
    refine al_op rfl rfl rfl (opP_assign rfl (ev_tmp rfl)) ?_
    refine al_nil ?_
    refine ⟨b + 1, id, ⟨hbl, ?_⟩, by omega, Fit.of ⟨rfl, rfl, trivial⟩ ⟨rfl, rfl, by rw [← wrapS (by omega)]; rfl, trivial⟩ rfl rfl⟩
    have e : i = f.blocks[b].length := by simp at h8; omega
    subst e
    rw [List.take_length] at hpi
    rw [List.range_succ, List.all_append, hph]; simp only [List.all_cons, List.all_nil, phisOk]; simpa [hbl] using hpi
  have hil : i < f.blocks[b].length := by simpa using h8
  have hto := (hf.inst _ (List.getElem_mem hbl) _ (List.getElem_mem hil)).to
  refine aw_skip ?_
  refine aw_seq ?_
  refine aw_block ?_
  refine aw_seq ?_
  refine aw_region ?_
  refine al_op rfl rfl rfl (opP_fieldAddr rfl (ev_tmp rfl) u27 rfl rfl s25 rfl) ?_
  refine al_op rfl rfl rfl (opP_load_pt rfl u25 rfl (ev_tmp rfl) rfl rfl) ?_
  refine al_op rfl rfl rfl (opP_move rfl (ev_tmp rfl)) ?_
  refine al_op rfl rfl rfl (opP_index_dat rfl u25 s35 (ev_tmp rfl) (ev_tmp rfl) (fun _ => Int.natCast_nonneg _) (fun _ => blocks_get hbl)) ?_
  refine al_op rfl rfl rfl (opP_load_pr rfl u35 rfl (ev_tmp rfl)) ?_
  refine al_op rfl rfl rfl (opP_move rfl (ev_tmp rfl)) ?_
  refine al_op rfl rfl rfl (opP_index_dat rfl u35 s38 (ev_tmp rfl) (ev_tmp rfl) (fun _ => Int.natCast_nonneg _) (fun _ => insts_get hil)) ?_
  refine al_op rfl rfl rfl (opP_load_prn rfl u38 rfl s38 (ev_tmp rfl) rfl) ?_
  refine al_opc (k := 102) rfl rfl rfl ((hvk _).trans rfl) (opC_alloc rfl z38) ?_
  refine al_store_pt rfl rfl rfl s38 (ev_tmp rfl) (ev_tmp rfl) rfl rfl rfl rfl rfl rfl ?_
  refine al_nil ?_
  refine aw_seq ?_
  refine aw_draw mixed ?_
  apply ad_phase' [⟨0, 93, _, [], []⟩, ⟨1, 94, _, [0], []⟩, ⟨2, 95, _, [0, 1], []⟩, ⟨3, 96, _, [0, 1, 2], []⟩, ⟨4, 97, _, [0, 1, 2, 3], []⟩, ⟨5, 98, _, [0, 1, 2, 3, 4], []⟩, ⟨6, 99, _, [0, 1, 2, 3], []⟩, ⟨7, 100, _, [0, 1, 2, 3], []⟩, ⟨8, 101, _, [0, 1, 2, 3, 6, 7], [(202, _)]⟩, ⟨9, 102, _, [0, 1, 2, 3, 4, 5, 6, 7, 8], []⟩, ⟨10, 103, _, [0, 1, 2, 3, 4, 5, 6, 7, 8, 9], []⟩, ⟨11, 104, _, [0, 1, 2, 3, 4, 5, 6, 7, 8, 9, 10], []⟩] [] (fuelT := 0)
  · skip
    refine .cons rfl (stepD_op rfl (opP_fieldAddr rfl (ev_tmp rfl) u38 rfl rfl s3 rfl)) ?_
    refine .cons rfl (stepD_op rfl (opP_load_pt rfl u3 rfl (ev_tmp rfl) rfl rfl)) ?_
    refine .cons rfl (stepD_op rfl (opP_bin rfl (ev_tmp rfl) (ev_const rfl) rfl)) ?_
    refine .cons rfl (stepD_op rfl (opP_move rfl (ev_tmp rfl))) ?_
    refine .cons rfl (stepD_opg rfl rfl rfl rfl (opP_fieldAddr rfl (ev_tmp rfl) u38 rfl rfl s22 rfl)) ?_
    refine .cons rfl (stepD_opg rfl rfl rfl rfl (opP_load_pt rfl u22 rfl (ev_when rfl id) rfl rfl)) ?_
    refine .cons rfl (stepD_opg rfl rfl rfl rfl (opP_move rfl (ev_tmp rfl))) ?_
    refine .cons rfl (stepD_opg rfl rfl rfl rfl (opP_move rfl (ev_tmp rfl))) ?_
    refine .cons rfl (stepD_callgR 202 rfl rfl rfl rfl (callOf_func rfl (.cons (ev_when rfl id) (.cons (ev_when rfl id) .nil))) (fun gd => c89 (graphR f) b hg1 hg2) (fun gd => (.cons (Vw.row _ _ _ _ _ _ rfl rfl (by simp [graph_len]) (by simp [graph_len, List.take_of_length_le])) (.cons (Vw.v _) .nil)))) ?_
    refine .cons rfl (stepD_callg rfl rfl rfl rfl (callOf_func rfl (.cons (ev_when rfl id) (.cons (ev_when rfl id) .nil))) (fun gd => c48 f.blocks[b][i].to (beforeR (graphR f) b) hto) (fun gd => (.cons (Vw.datn _) (.cons (Vw.row _ _ _ _ _ _ rfl rfl (by rw [gd]; simp [ints_len]) (by rw [gd]; simp [ints_len, List.take_of_length_le])) .nil))) rfl (fun _ => rfl)) ?_
    refine .cons rfl (stepD_opg rfl rfl rfl rfl (opP_not rfl (ev_when rfl id))) ?_
    refine .cons rfl (stepD_op rfl (opP_and rfl (ev_tmp rfl) (ev_when rfl id))) ?_
    exact .nil
  · exact .no rfl (.no rfl (.no rfl (.no rfl (.no rfl (.no rfl (.no rfl (.no rfl (.no rfl (.no rfl (.no rfl (.no rfl (.nil))))))))))))
  · rfl
  · rfl
  · rfl
  · rfl
  · exact fun c s h => h
  · exact hvkd _ rfl
  · rfl
  refine ad_done rfl ?_
  refine aw_condS rfl (fun h9 => ?_) (fun h9 => ?_)
  · refine aw_skip ?_
    refine aw_region ?_
    refine al_op rfl rfl rfl (opP_move rfl (ev_tmp rfl)) ?_
    refine al_op rfl rfl rfl (opP_bin rfl (ev_tmp rfl) (ev_const rfl) rfl) ?_
    refine al_op rfl rfl rfl (opP_assign rfl (ev_tmp rfl)) ?_
    refine al_nil ?_
    refine ⟨i + 1, id, ⟨hil, ?_⟩, by omega, Fit.of ⟨rfl, rfl, trivial⟩ ⟨rfl, rfl, rfl, by rw [← wrapS (by omega)]; rfl, trivial⟩ rfl rfl⟩
    rw [List.take_succ_eq_append_getElem hil, List.all_append, hpi]; simp only [List.all_cons, List.all_nil, phiOk]; simp at h9 ⊢
    exact (Classical.em (f.blocks[b][i].op = 28)).elim (fun h => .inr (h9 h)) .inl
  refine aw_seq ?_
  refine aw_region ?_
  refine al_op rfl rfl rfl (opP_assign rfl (ev_const rfl)) ?_
  refine al_nil ?_
  refine aw_ret ?_
  have e : rulesR f = false := by
    have : (List.range f.blocks.length).all (phisOk f) = false := List.all_eq_false.2 ⟨b, List.mem_range.2 hbl, by
      have : f.blocks[b].all (phiOk f b) = false := List.all_eq_false.2 ⟨_, List.getElem_mem hil, by simp at h9; simp [phiOk, h9]⟩
      simp [phisOk, hbl, this]⟩
    unfold rulesR; rw [this]; simp
  rw [e]; exact ret_id _ (.tmp rfl .nil) rfl trivial rfl rfl
end Go.AL
namespace Go.AL
instance : Inhabited Inst := ⟨⟨0, 0, 0, [], 0, []⟩⟩
def argThere (f : Fn) (b i : Nat) (x : Inst) (k : Nat) : Bool :=
  if x.op == 28 then !((reachedR (graphR f) (-1)).getD (x.to.getD k 0).toNat false && !(thereR f (graphR f) (x.args.getD k 0) (x.to.getD k 0) (-1)))
  else thereR f (graphR f) (x.args.getD k 0) b i
def instThere (f : Fn) (b i : Nat) (x : Inst) : Bool := (List.range x.args.length).all fun k => argThere f b i x k
def blockThere (f : Fn) (b : Nat) : Bool := !((reachedR (graphR f) (-1)).getD b false) || (List.range (f.blocks.getD b []).length).all fun i => instThere f b i ((f.blocks.getD b []).getD i default)
def statedR (f : Fn) : Bool := (List.range f.blocks.length).all (blockThere f)
theorem getD_at {l : List Bool} {i : Nat} (h : i < l.length) : l.getD i false = l[i] := by simp [h]
theorem phi_len {f : Fn} {x : Inst} (ha : argumentR f x = true) (h : x.op = 28) : x.args.length = x.to.length := by
  have e : (shapeR f x).1 = -1 := by simp [shapeR, h]
  simp only [argumentR, Bool.and_eq_true, Bool.not_eq_true', countBad, Bool.or_eq_false_iff, e] at ha
  have := ha.1.1.2.1.2
  simp at this
  omega
theorem to_ok {f : Fn} {x : Inst} {k : Nat} (ha : argumentR f x = true) (hk : k < x.to.length) : 0 ≤ x.to.getD k 0 ∧ x.to.getD k 0 < f.blocks.length := by
  simp only [argumentR, Bool.and_eq_true, Bool.not_eq_true'] at ha
  have := List.any_eq_false.1 ha.1.2 _ (List.getElem_mem hk)
  simp [toBad] at this
  have e : x.to.getD k 0 = x.to[k] := by simp [hk]
  rw [e]; omega
theorem stated_bad {f : Fn} {b i k : Nat} (hb : b < f.blocks.length) (hi : i < f.blocks[b].length) (hk : k < f.blocks[b][i].args.length) (hin : (reachedR (graphR f) (-1)).getD b false = true) (h : argThere f b i f.blocks[b][i] k = false) : statedR f = false := by
  refine List.all_eq_false.2 ⟨b, List.mem_range.2 hb, ?_⟩
  have e1 : f.blocks.getD b [] = f.blocks[b] := by simp [hb]
  have e2 : f.blocks[b].getD i default = f.blocks[b][i] := by simp [hi]
  have : ((List.range f.blocks[b].length).all fun i => instThere f b i (f.blocks[b].getD i default)) = false := List.all_eq_false.2 ⟨i, List.mem_range.2 hi, by
    rw [e2]; simp only [instThere, Bool.not_eq_true]; exact List.all_eq_false.2 ⟨k, List.mem_range.2 hk, by rw [h]; simp⟩⟩
  simp only [blockThere, e1, hin, this]; simp
def bigR (f : Fn) : Bool := decide ((f.params.length : Int) > 3) || decide ((f.slots.length : Int) > 2) || decide ((f.blocks.length : Int) < 1) || decide ((f.blocks.length : Int) > 10)
def manyR (f : Fn) : Bool := decide ((total f.blocks : Int) > 40)
def retBad (f : Fn) : Bool := decide (f.ret < 0) || decide (f.ret > 32)
def slotBad (n : Int) : Bool := decide (n < 1) || decide (n > 8)
def slotsOk (f : Fn) : Bool := f.slots.all fun n => !(slotBad n)
def argsOk (f : Fn) : Bool := f.blocks.all fun l => l.all (argumentR f)
def typesOk (f : Fn) : Bool := f.blocks.all fun l => l.all (typedR f)
def validateR (f : Fn) : Int :=
  bif bigR f then 3 else bif manyR f then 3 else bif retBad f then 1 else bif !(f.params.all isW) then 1 else bif !(slotsOk f) then 1 else bif !(argsOk f) then 1
  else bif !(rulesR f) then 7 else bif !(typesOk f) then 6 else bif !(statedR f) then 9 else 0
theorem argsOk_at {f : Fn} (h : argsOk f = true) : ∀ l ∈ f.blocks, ∀ x ∈ l, argumentR f x = true := fun l hl x hx => List.all_eq_true.1 (List.all_eq_true.1 h l hl) x hx
theorem graph_ok {f : Fn} (hf : f.Fits) (hb : bigR f = false) (ha : argsOk f = true) : GOk (graphR f) := by
  refine ⟨by rw [graph_len]; exact hf.blocks, graph_rows hf, fun l hl t ht => ?_, ?_⟩
  · rw [graph_len]
    obtain ⟨b, hb', rfl⟩ := List.mem_map.1 hl
    unfold lastTo at ht
    cases h : b.getLast? with
    | none => rw [h] at ht; simp at ht
    | some x =>
      rw [h] at ht
      have hx := argsOk_at ha b hb' x (List.mem_of_getLast? h)
      obtain ⟨k, hk, rfl⟩ := List.getElem_of_mem (show t ∈ x.to from ht)
      have := to_ok hx hk
      simpa [hk] using this
  · rw [graph_len]
    simp [bigR] at hb
    cases hbl : f.blocks with
    | nil => simp [hbl] at hb
    | cons => simp
end Go.AL
namespace Go.AL
open Go.Proofs
theorem e46 : Enters Tryz.prog 46 := enters_of Tryz.func46 (by kernel_rfl) (by kernel_rfl)
set_option maxRecDepth 100000 in
set_option maxHeartbeats 4000000 in
theorem c46 (f : Fn) (hf : f.Fits) (hne : ∀ l ∈ f.blocks, l ≠ []) (hg : GOk (graphR f)) (harg : ∀ l ∈ f.blocks, ∀ x ∈ l, argumentR f x = true) : Ok Tryz.prog 46 [.dat none (fnD f)] [] (.v (.bool (statedR f))) [] := by
  refine ok_of e46 Tryz.func46 rfl (by kernel_rfl) ?_
  intro cx hP hro hN hvk
  obtain ⟨P, ro, w0, Bin, N, R0, tk0, bl0, vk⟩ := cx
  subst hP hro hN
  have hvkd := vkd_of hvk
  refine aw_seq ?_
  refine aw_region ?_
  refine al_opc (k := 101) rfl rfl rfl ((hvk _).trans rfl) (opC_box rfl (ev_tmp rfl) rfl) ?_
  refine al_op rfl rfl rfl (opP_assign rfl (ev_const rfl)) ?_
  refine al_nil ?_
  refine aw_seq ?_
  refine aw_region ?_
  refine al_op rfl rfl rfl (opP_load_ptn rfl u27 rfl s27 (ev_tmp rfl) rfl rfl) ?_
  refine al_call (id) rfl rfl rfl (callOf_func rfl (.cons (ev_tmp rfl) .nil)) (c88 f hf hne) (by repeat' (first | refine Vw.stDOf ?_ | refine Vw.ptOf rfl rfl rfl ?_ | refine Vw.prvOf ?_ | refine Vw.cloOf ?_ | constructor)) (fun _ h => absurd h (by simp)) rfl rfl rfl (fun p hp => .inr ((hvk _).trans (by simp at hp; subst hp; rfl))) ?_
  refine al_op rfl rfl rfl (opP_assign rfl (ev_tmp rfl)) ?_
  refine al_nil ?_
  refine aw_seq ?_
  refine aw_region ?_
  refine al_op rfl rfl rfl (opP_move rfl (ev_tmp rfl)) ?_
  refine al_call (id) rfl rfl rfl (callOf_func rfl (.cons (ev_tmp rfl) (.cons (ev_const rfl) .nil))) (c91 (graphR f) (-1) hg.len hg.row hg.ok hg.pos) (.cons (Vw.row _ _ _ _ _ _ rfl rfl (by simp [graph_len]) (by simp [graph_len, List.take_of_length_le])) (.cons (Vw.v _) .nil)) (fun _ h => absurd h (by simp)) rfl rfl rfl (fun p hp => .inr ((hvk _).trans (by simp at hp; subst hp; rfl))) ?_
  refine al_op rfl rfl rfl (opP_assign rfl (ev_tmp rfl)) ?_
  refine al_nil ?_
  refine aw_seq ?_
  refine aw_seq ?_
  refine aw_region ?_
  refine al_op rfl rfl rfl (opP_assign rfl (ev_const rfl)) ?_
  refine al_nil ?_
  refine aw_block ?_
  refine aw_loop' (α := Nat) (fun b => [(1, .pt 101 0), (3, .row 88001 1 0 f.blocks.length), (4, .row 91001 1 0 (graphR f).length), (5, .v (.int .i64 b))]) (fun b => [(101, .var [.dat none (.sl 1 (ints f.params)), .v (.int .i64 f.ret), .dat none (.sl 1 (ints f.slots)), .dat none (.sl 1 (f.blocks.map instsD))]), (88001, .row 1 ((graphR f).map rowD)), (91001, .row 1 (bools (reachedR (graphR f) (-1))))]) (fun b => b ≤ f.blocks.length ∧ (List.range b).all (blockThere f) = true) (fun b => f.blocks.length - b) 0 ⟨Nat.zero_le _, rfl⟩ id (Fit.of ⟨rfl, rfl, rfl, trivial⟩ ⟨rfl, rfl, rfl, rfl, trivial⟩ rfl rfl) ?_
  rintro b ⟨hb, hok⟩
  refine aw_seq ?_
  refine aw_seq ?_
  refine aw_region ?_
  refine al_op rfl rfl rfl (opP_move rfl (ev_tmp rfl)) ?_
  refine al_op rfl rfl rfl (opP_fieldAddr rfl (ev_tmp rfl) u27 rfl rfl s25 rfl) ?_
  refine al_op rfl rfl rfl (opP_load_pt rfl u25 rfl (ev_tmp rfl) rfl rfl) ?_
  refine al_op rfl rfl rfl (opP_len rfl u25 (ev_tmp rfl) (by first | exact lenA_ints | exact lenA_map | rfl)) ?_
  refine al_op rfl rfl rfl (opP_bin rfl (ev_tmp rfl) (ev_tmp rfl) rfl) ?_
  refine al_nil ?_
  refine aw_condS rfl (fun h1 => ?_) (fun h1 => ?_)
  · refine aw_exit ?_
    refine aw_seq ?_
    refine aw_region ?_
    refine al_op rfl rfl rfl (opP_assign rfl (ev_const rfl)) ?_
    refine al_nil ?_
    refine aw_ret ?_
    have e : statedR f = true := by
      have e : b = f.blocks.length := by simp at h1; omega
      subst e; exact hok
    rw [e]; exact ret_id _ (.tmp rfl .nil) rfl trivial rfl rfl
  have hbf := hf.blocks
  have hbl : b < f.blocks.length := by simpa using h1
  have hbi := hf.insts _ (List.getElem_mem hbl)
  have hbr : b < (reachedR (graphR f) (-1)).length := by rw [reachedR_len, graph_len]; exact hbl
  have hbg : b < (graphR f).length := by rw [graph_len]; exact hbl
  have hld := bools_get (l := reachedR (graphR f) (-1)) (i := b) hbr
  refine aw_skip ?_
  refine aw_seq ?_
  refine aw_block ?_
  refine aw_seq ?_
  refine aw_seq ?_
  refine aw_region ?_
  refine al_op rfl rfl rfl (opP_move rfl (ev_tmp rfl)) ?_
  refine al_op rfl rfl rfl (opP_move rfl (ev_tmp rfl)) ?_
  refine al_op rfl rfl rfl (opP_index_row rfl u99 s4 (ev_tmp rfl) (ev_tmp rfl) (fun _ => Int.natCast_nonneg _) (fun _ => by omega)) ?_
  refine al_op rfl rfl rfl (opP_load_pe rfl u4 rfl (ev_tmp rfl) rfl (fun _ => hld) rfl) ?_
  refine al_op rfl rfl rfl (opP_not rfl (ev_tmp rfl)) ?_
  refine al_nil ?_
  refine aw_cond rfl (fun h2 => ?_) (fun h2 => ?_)
  · refine aw_exit ?_
    refine aw_region ?_
    refine al_op rfl rfl rfl (opP_move rfl (ev_tmp rfl)) ?_
    refine al_op rfl rfl rfl (opP_bin rfl (ev_tmp rfl) (ev_const rfl) rfl) ?_
    refine al_op rfl rfl rfl (opP_assign rfl (ev_tmp rfl)) ?_
    refine al_nil ?_
    refine ⟨b + 1, id, ⟨hbl, ?_⟩, by omega, Fit.of ⟨rfl, rfl, rfl, trivial⟩ ⟨rfl, rfl, rfl, by rw [← wrapS (by omega)]; rfl, trivial⟩ rfl rfl⟩
    rw [List.range_succ, List.all_append, hok]; simp only [List.all_cons, List.all_nil, blockThere]; simp at h2; simp [hbr, h2]
  have hin1 : (reachedR (graphR f) (-1))[b] = true := by simpa using h2
  refine aw_skip ?_
  refine aw_seq ?_
  refine aw_region ?_
  refine al_op rfl rfl rfl (opP_assign rfl (ev_const rfl)) ?_
  refine al_nil ?_
  refine aw_block ?_
  refine aw_loop' (α := Nat) (fun i => [(1, .pt 101 0), (3, .row 88001 1 0 f.blocks.length), (4, .row 91001 1 0 (graphR f).length), (5, .v (.int .i64 b)), (6, .v (.int .i64 i))]) (fun i => [(101, .var [.dat none (.sl 1 (ints f.params)), .v (.int .i64 f.ret), .dat none (.sl 1 (ints f.slots)), .dat none (.sl 1 (f.blocks.map instsD))]), (88001, .row 1 ((graphR f).map rowD)), (91001, .row 1 (bools (reachedR (graphR f) (-1))))]) (fun i => i ≤ f.blocks[b].length ∧ ((List.range i).all fun j => instThere f b j (f.blocks[b].getD j default)) = true) (fun i => f.blocks[b].length - i) 0 ⟨Nat.zero_le _, rfl⟩ id (Fit.of ⟨rfl, rfl, rfl, trivial⟩ ⟨rfl, rfl, rfl, rfl, rfl, trivial⟩ rfl rfl) ?_
  rintro i ⟨hi, hal⟩
  refine aw_seq ?_
  refine aw_seq ?_
  refine aw_region ?_
  refine al_op rfl rfl rfl (opP_move rfl (ev_tmp rfl)) ?_
  refine al_op rfl rfl rfl (opP_fieldAddr rfl (ev_tmp rfl) u27 rfl rfl s25 rfl) ?_
  refine al_op rfl rfl rfl (opP_load_pt rfl u25 rfl (ev_tmp rfl) rfl rfl) ?_
  refine al_op rfl rfl rfl (opP_move rfl (ev_tmp rfl)) ?_
  refine al_op rfl rfl rfl (opP_index_dat rfl u25 s35 (ev_tmp rfl) (ev_tmp rfl) (fun _ => Int.natCast_nonneg _) (fun _ => blocks_get hbl)) ?_
  refine al_op rfl rfl rfl (opP_load_pr rfl u35 rfl (ev_tmp rfl)) ?_
  refine al_op rfl rfl rfl (opP_len rfl u35 (ev_tmp rfl) (by first | exact lenA_ints | exact lenA_map | rfl)) ?_
  refine al_op rfl rfl rfl (opP_bin rfl (ev_tmp rfl) (ev_tmp rfl) rfl) ?_
  refine al_nil ?_
  refine aw_condS rfl (fun h3 => ?_) (fun h3 => ?_)
  · refine aw_exit ?_
    refine aw_region ?_
    refine al_op rfl rfl rfl (opP_move rfl (ev_tmp rfl)) ?_
    refine al_op rfl rfl rfl (opP_bin rfl (ev_tmp rfl) (ev_const rfl) rfl) ?_
    refine al_op rfl rfl rfl (opP_assign rfl (ev_tmp rfl)) ?_
    refine al_nil ?_
    refine ⟨b + 1, id, ⟨hbl, ?_⟩, by omega, Fit.of ⟨rfl, rfl, rfl, trivial⟩ ⟨rfl, rfl, rfl, by rw [← wrapS (by omega)]; rfl, trivial⟩ rfl rfl⟩
    have e : i = f.blocks[b].length := by simp at h3; omega
    subst e
    rw [List.range_succ, List.all_append, hok]; simp only [List.all_cons, List.all_nil, blockThere]; rw [show f.blocks.getD b [] = f.blocks[b] by simp [hbl], hal]; simp
  have hil : i < f.blocks[b].length := by simpa using h3
  have hxf := hf.inst _ (List.getElem_mem hbl) _ (List.getElem_mem hil)
  have hxa := hxf.args
  have hxg := harg _ (List.getElem_mem hbl) _ (List.getElem_mem hil)
  refine aw_skip ?_
  refine aw_seq ?_
  refine aw_block ?_
  refine aw_seq ?_
  refine aw_region ?_
  refine al_op rfl rfl rfl (opP_fieldAddr rfl (ev_tmp rfl) u27 rfl rfl s25 rfl) ?_
  refine al_op rfl rfl rfl (opP_load_pt rfl u25 rfl (ev_tmp rfl) rfl rfl) ?_
  refine al_op rfl rfl rfl (opP_move rfl (ev_tmp rfl)) ?_
  refine al_op rfl rfl rfl (opP_index_dat rfl u25 s35 (ev_tmp rfl) (ev_tmp rfl) (fun _ => Int.natCast_nonneg _) (fun _ => blocks_get hbl)) ?_
  refine al_op rfl rfl rfl (opP_load_pr rfl u35 rfl (ev_tmp rfl)) ?_
  refine al_op rfl rfl rfl (opP_move rfl (ev_tmp rfl)) ?_
  refine al_op rfl rfl rfl (opP_index_dat rfl u35 s38 (ev_tmp rfl) (ev_tmp rfl) (fun _ => Int.natCast_nonneg _) (fun _ => insts_get hil)) ?_
  refine al_op rfl rfl rfl (opP_load_prn rfl u38 rfl s38 (ev_tmp rfl) rfl) ?_
  refine al_opc (k := 105) rfl rfl rfl ((hvk _).trans rfl) (opC_alloc rfl z38) ?_
  refine al_store_pt rfl rfl rfl s38 (ev_tmp rfl) (ev_tmp rfl) rfl rfl rfl rfl rfl rfl ?_
  refine al_nil ?_
  refine aw_seq ?_
  refine aw_region ?_
  refine al_op rfl rfl rfl (opP_assign rfl (ev_const rfl)) ?_
  refine al_nil ?_
  refine aw_block ?_
  refine aw_loop' (α := Nat) (fun k => [(1, .pt 101 0), (3, .row 88001 1 0 f.blocks.length), (4, .row 91001 1 0 (graphR f).length), (5, .v (.int .i64 b)), (6, .v (.int .i64 i)), (7, .pt 105 0), (8, .v (.int .i64 k))]) (fun k => [(101, .var [.dat none (.sl 1 (ints f.params)), .v (.int .i64 f.ret), .dat none (.sl 1 (ints f.slots)), .dat none (.sl 1 (f.blocks.map instsD))]), (88001, .row 1 ((graphR f).map rowD)), (91001, .row 1 (bools (reachedR (graphR f) (-1)))), (105, .var [.v (.int .i64 (f.blocks[b][i]).op), .v (.int .i64 (f.blocks[b][i]).w), .v (.int .i64 (f.blocks[b][i]).fl), .dat none (.sl 1 (ints (f.blocks[b][i]).args)), .v (.int .u32 (f.blocks[b][i]).imm), .dat none (.sl 1 (ints (f.blocks[b][i]).to))])]) (fun k => k ≤ f.blocks[b][i].args.length ∧ ((List.range k).all fun j => argThere f b i f.blocks[b][i] j) = true) (fun k => f.blocks[b][i].args.length - k) 0 ⟨Nat.zero_le _, rfl⟩ id (Fit.of ⟨rfl, rfl, rfl, rfl, trivial⟩ ⟨rfl, rfl, rfl, rfl, rfl, rfl, rfl, trivial⟩ rfl rfl) ?_
  rintro k ⟨hk, hkk⟩
  refine aw_seq ?_
  refine aw_seq ?_
  refine aw_region ?_
  refine al_op rfl rfl rfl (opP_move rfl (ev_tmp rfl)) ?_
  refine al_op rfl rfl rfl (opP_fieldAddr rfl (ev_tmp rfl) u38 rfl rfl s22 rfl) ?_
  refine al_op rfl rfl rfl (opP_load_pt rfl u22 rfl (ev_tmp rfl) rfl rfl) ?_
  refine al_op rfl rfl rfl (opP_len rfl u22 (ev_tmp rfl) (by first | exact lenA_ints | exact lenA_map | rfl)) ?_
  refine al_op rfl rfl rfl (opP_bin rfl (ev_tmp rfl) (ev_tmp rfl) rfl) ?_
  refine al_nil ?_
  refine aw_condS rfl (fun h4 => ?_) (fun h4 => ?_)
  · refine aw_exit ?_
    refine aw_region ?_
    refine al_op rfl rfl rfl (opP_move rfl (ev_tmp rfl)) ?_
    refine al_op rfl rfl rfl (opP_bin rfl (ev_tmp rfl) (ev_const rfl) rfl) ?_
    refine al_op rfl rfl rfl (opP_assign rfl (ev_tmp rfl)) ?_
    refine al_nil ?_
    refine ⟨i + 1, id, ⟨hil, ?_⟩, by omega, Fit.of ⟨rfl, rfl, rfl, trivial⟩ ⟨rfl, rfl, rfl, rfl, by rw [← wrapS (by omega)]; rfl, trivial⟩ rfl rfl⟩
    have e : k = f.blocks[b][i].args.length := by simp at h4; omega
    subst e
    rw [List.range_succ, List.all_append, hal]; simp only [List.all_cons, List.all_nil, instThere]; rw [show f.blocks[b].getD i default = f.blocks[b][i] by simp [hil], hkk]; rfl
  have hkl : k < f.blocks[b][i].args.length := by simpa using h4
  have hav : I64 (f.blocks[b][i].args.getD k 0) := by simp [hkl]; exact hxf.args64 _ (List.getElem_mem hkl)
  have hag := ints_getD hkl
  refine aw_skip ?_
  refine aw_seq ?_
  refine aw_block ?_
  refine aw_seq ?_
  refine aw_region ?_
  refine al_op rfl rfl rfl (opP_fieldAddr rfl (ev_tmp rfl) u38 rfl rfl s3 rfl) ?_
  refine al_op rfl rfl rfl (opP_load_pt rfl u3 rfl (ev_tmp rfl) rfl rfl) ?_
  refine al_op rfl rfl rfl (opP_bin rfl (ev_tmp rfl) (ev_const rfl) rfl) ?_
  refine al_nil ?_
  refine aw_condS rfl (fun h5 => ?_) (fun h5 => ?_)
  · refine aw_seq ?_
    refine aw_draw mixed ?_
    apply ad_phase' [⟨0, 77, _, [], []⟩, ⟨1, 78, _, [], []⟩, ⟨2, 79, _, [], []⟩, ⟨3, 80, _, [2], []⟩, ⟨4, 81, _, [], []⟩, ⟨5, 82, _, [2, 3, 4], []⟩, ⟨6, 83, _, [2, 3, 4, 5], []⟩, ⟨7, 84, _, [], []⟩, ⟨8, 85, _, [], []⟩, ⟨9, 86, _, [0, 1, 2, 3, 4, 5, 6, 7, 8], []⟩, ⟨10, 87, _, [0, 1, 2, 3, 4, 5, 6, 7, 8, 9], []⟩] [] (fuelT := 0)
    · skip
      refine .cons rfl (stepD_op rfl (opP_load_ptn (cs := [.dat none (.sl 1 (ints f.params)), .v (.int .i64 f.ret), .dat none (.sl 1 (ints f.slots)), .dat none (.sl 1 (f.blocks.map instsD))]) rfl u27 rfl s27 (ev_tmp rfl) rfl rfl)) ?_
      refine .cons rfl (stepD_op rfl (opP_move rfl (ev_tmp rfl))) ?_
      refine .cons rfl (stepD_op rfl (opP_fieldAddr rfl (ev_tmp rfl) u38 rfl rfl s22 rfl)) ?_
      refine .cons rfl (stepD_op rfl (opP_load_pt rfl u22 rfl (ev_tmp rfl) rfl rfl)) ?_
      refine .cons rfl (stepD_op rfl (opP_move rfl (ev_tmp rfl))) ?_
      refine .cons rfl (stepD_op rfl (opP_index_dat rfl u22 s3 (ev_tmp rfl) (ev_tmp rfl) (fun _ => Int.natCast_nonneg _) (fun _ => hag))) ?_
      refine .cons rfl (stepD_op rfl (opP_load_pr rfl u3 rfl (ev_tmp rfl))) ?_
      refine .cons rfl (stepD_op rfl (opP_move rfl (ev_tmp rfl))) ?_
      refine .cons rfl (stepD_op rfl (opP_move rfl (ev_tmp rfl))) ?_
      refine .cons rfl (stepD_call (id) rfl (callOf_func rfl (.cons (ev_tmp rfl) (.cons (ev_tmp rfl) (.cons (ev_tmp rfl) (.cons (ev_tmp rfl) (.cons (ev_tmp rfl) .nil)))))) (c92 f (graphR f) (f.blocks[b][i].args.getD k 0) b i hf hav hg ⟨Int.natCast_nonneg _, by omega⟩) (.cons (Vw.stDOf (by repeat' constructor)) (.cons (Vw.row _ _ _ _ _ _ rfl rfl (by simp [graph_len]) (by simp [graph_len, List.take_of_length_le])) (.cons (Vw.v _) (.cons (Vw.v _) (.cons (Vw.v _) .nil))))) rfl rfl rfl (fun _ => rfl) (fun _ => rfl)) ?_
      refine .cons rfl (stepD_op rfl (opP_not rfl (ev_tmp rfl))) ?_
      exact .nil
    · exact .no rfl (.no rfl (.no rfl (.no rfl (.no rfl (.no rfl (.no rfl (.no rfl (.no rfl (.no rfl (.no rfl (.nil)))))))))))
    · rfl
    · rfl
    · rfl
    · rfl
    · exact fun c s h => h
    · exact hvkd _ rfl
    · rfl
    refine ad_done rfl ?_
    refine aw_cond rfl (fun h7 => ?_) (fun h7 => ?_)
    · refine aw_seq ?_
      refine aw_region ?_
      refine al_op rfl rfl rfl (opP_assign rfl (ev_const rfl)) ?_
      refine al_nil ?_
      refine aw_ret ?_
      have e : statedR f = false := stated_bad hbl hil hkl (by simpa [hbr] using hin1) (by simp only [argThere, h5]; simpa using h7)
      rw [e]; exact ret_id _ (.tmp rfl .nil) rfl trivial rfl rfl
    refine aw_skip ?_
    refine aw_region ?_
    refine al_op rfl rfl rfl (opP_move rfl (ev_tmp rfl)) ?_
    refine al_op rfl rfl rfl (opP_bin rfl (ev_tmp rfl) (ev_const rfl) rfl) ?_
    refine al_op rfl rfl rfl (opP_assign rfl (ev_tmp rfl)) ?_
    refine al_nil ?_
    refine ⟨k + 1, id, ⟨hkl, ?_⟩, by omega, Fit.of ⟨rfl, rfl, rfl, rfl, trivial⟩ ⟨rfl, rfl, rfl, rfl, rfl, rfl, by rw [← wrapS (by omega)]; rfl, trivial⟩ rfl rfl⟩
    rw [List.range_succ, List.all_append, hkk]; simp only [List.all_cons, List.all_nil, argThere, h5]; simpa using h7
  have hop : f.blocks[b][i].op = 28 := by simpa using h5
  have htl : k < f.blocks[b][i].to.length := by rw [← phi_len hxg hop]; exact hkl
  have htv := to_ok hxg htl
  have hrl : (f.blocks[b][i].to.getD k 0).toNat < (reachedR (graphR f) (-1)).length := by rw [reachedR_len, graph_len]; omega
  have hrd := bools_get (l := reachedR (graphR f) (-1)) hrl
  have htg := ints_getD htl
  have htv2 : 0 ≤ f.blocks[b][i].to.getD k 0 ∧ f.blocks[b][i].to.getD k 0 < (graphR f).length := by rw [graph_len]; exact htv
  refine aw_seq ?_
  refine aw_draw mixed ?_
  apply ad_phase' [⟨0, 53, _, [], []⟩, ⟨1, 54, _, [], []⟩, ⟨2, 55, _, [1], []⟩, ⟨3, 56, _, [], []⟩, ⟨4, 57, _, [1, 2, 3], []⟩, ⟨5, 58, _, [1, 2, 3, 4], []⟩, ⟨6, 59, _, [0, 1, 2, 3, 4, 5], []⟩, ⟨7, 60, _, [0, 1, 2, 3, 4, 5, 6], []⟩, ⟨8, 61, _, [0, 1, 2, 3, 4, 5, 6, 7], []⟩, ⟨9, 62, _, [0, 1, 2, 3, 4, 5, 6, 7, 8], []⟩, ⟨10, 63, _, [0, 1, 2, 3, 4, 5, 6, 7, 8], []⟩, ⟨11, 64, _, [0, 1, 2, 3, 4, 5, 6, 7, 8], []⟩, ⟨12, 65, _, [0, 1, 2, 3, 4, 5, 6, 7, 8, 11], []⟩, ⟨13, 66, _, [0, 1, 2, 3, 4, 5, 6, 7, 8], []⟩, ⟨14, 67, _, [0, 1, 2, 3, 4, 5, 6, 7, 8, 11, 12, 13], []⟩, ⟨15, 68, _, [0, 1, 2, 3, 4, 5, 6, 7, 8, 11, 12, 13, 14], []⟩, ⟨16, 69, _, [0, 1, 2, 3, 4, 5, 6, 7, 8], []⟩, ⟨17, 70, _, [0, 1, 2, 3, 4, 5, 6, 7, 8, 16], []⟩, ⟨18, 71, _, [0, 1, 2, 3, 4, 5, 6, 7, 8], []⟩, ⟨19, 72, _, [0, 1, 2, 3, 4, 5, 6, 7, 8, 16, 17, 18], []⟩, ⟨20, 73, _, [0, 1, 2, 3, 4, 5, 6, 7, 8, 16, 17, 18, 19], []⟩, ⟨21, 74, _, [0, 1, 2, 3, 4, 5, 6, 7, 8, 9, 10, 11, 12, 13, 14, 15, 16, 17, 18, 19, 20], []⟩, ⟨22, 75, _, [0, 1, 2, 3, 4, 5, 6, 7, 8, 9, 10, 11, 12, 13, 14, 15, 16, 17, 18, 19, 20, 21], []⟩, ⟨23, 76, _, [0, 1, 2, 3, 4, 5, 6, 7, 8, 9, 10, 11, 12, 13, 14, 15, 16, 17, 18, 19, 20, 21, 22], []⟩] [] (fuelT := 0)
  · skip
    refine .cons rfl (stepD_op rfl (opP_move rfl (ev_tmp rfl))) ?_
    refine .cons rfl (stepD_op rfl (opP_fieldAddr rfl (ev_tmp rfl) u38 rfl rfl s22 rfl)) ?_
    refine .cons rfl (stepD_op rfl (opP_load_pt rfl u22 rfl (ev_tmp rfl) rfl rfl)) ?_
    refine .cons rfl (stepD_op rfl (opP_move rfl (ev_tmp rfl))) ?_
    refine .cons rfl (stepD_op rfl (opP_index_dat rfl u22 s3 (ev_tmp rfl) (ev_tmp rfl) (fun _ => Int.natCast_nonneg _) (fun _ => htg))) ?_
    refine .cons rfl (stepD_op rfl (opP_load_pr rfl u3 rfl (ev_tmp rfl))) ?_
    refine .cons rfl (stepD_op rfl (opP_index_row rfl u99 s4 (ev_tmp rfl) (ev_tmp rfl) (fun _ => htv2.1) (fun _ => htv2.2))) ?_
    refine .cons rfl (stepD_op rfl (opP_load_pe rfl u4 rfl (ev_tmp rfl) rfl (fun _ => hrd) rfl)) ?_
    refine .cons rfl (stepD_op rfl (opP_move rfl (ev_tmp rfl))) ?_
    refine .cons rfl (stepD_opg rfl rfl rfl rfl (opP_load_ptn (cs := [.dat none (.sl 1 (ints f.params)), .v (.int .i64 f.ret), .dat none (.sl 1 (ints f.slots)), .dat none (.sl 1 (f.blocks.map instsD))]) rfl u27 rfl s27 (ev_tmp rfl) rfl rfl)) ?_
    refine .cons rfl (stepD_opg rfl rfl rfl rfl (opP_move rfl (ev_tmp rfl))) ?_
    refine .cons rfl (stepD_opg rfl rfl rfl rfl (opP_fieldAddr rfl (ev_tmp rfl) u38 rfl rfl s22 rfl)) ?_
    refine .cons rfl (stepD_opg rfl rfl rfl rfl (opP_load_pt rfl u22 rfl (ev_when rfl id) rfl rfl)) ?_
    refine .cons rfl (stepD_opg rfl rfl rfl rfl (opP_move rfl (ev_tmp rfl))) ?_
    refine .cons rfl (stepD_opg rfl rfl rfl rfl (opP_index_dat rfl u22 s3 (ev_when rfl id) (ev_when rfl id) (fun _ => Int.natCast_nonneg _) (fun _ => hag))) ?_
    refine .cons rfl (stepD_opg rfl rfl rfl rfl (opP_load_pr rfl u3 rfl (ev_when rfl id))) ?_
    refine .cons rfl (stepD_opg rfl rfl rfl rfl (opP_fieldAddr rfl (ev_tmp rfl) u38 rfl rfl s22 rfl)) ?_
    refine .cons rfl (stepD_opg rfl rfl rfl rfl (opP_load_pt rfl u22 rfl (ev_when rfl id) rfl rfl)) ?_
    refine .cons rfl (stepD_opg rfl rfl rfl rfl (opP_move rfl (ev_tmp rfl))) ?_
    refine .cons rfl (stepD_opg rfl rfl rfl rfl (opP_index_dat rfl u22 s3 (ev_when rfl id) (ev_when rfl id) (fun _ => Int.natCast_nonneg _) (fun _ => htg))) ?_
    refine .cons rfl (stepD_opg rfl rfl rfl rfl (opP_load_pr rfl u3 rfl (ev_when rfl id))) ?_
    refine .cons rfl (stepD_callg rfl rfl rfl rfl (callOf_func rfl (.cons (ev_when rfl id) (.cons (ev_when rfl id) (.cons (ev_when rfl id) (.cons (ev_when rfl id) (.cons (ev_const rfl) .nil)))))) (fun gd => c92 f (graphR f) (f.blocks[b][i].args.getD k 0) (f.blocks[b][i].to.getD k 0) (-1) hf hav hg htv2) (fun gd => (.cons (Vw.stDOf (by repeat' constructor)) (.cons (Vw.row _ _ _ _ _ _ rfl rfl (by simp [graph_len]) (by simp [graph_len, List.take_of_length_le])) (.cons (Vw.v _) (.cons (Vw.v _) (.cons (Vw.v _) .nil)))))) rfl (fun _ => rfl)) ?_
    refine .cons rfl (stepD_opg rfl rfl rfl rfl (opP_not rfl (ev_when rfl id))) ?_
    refine .cons rfl (stepD_op rfl (opP_and rfl (ev_tmp rfl) (ev_when rfl id))) ?_
    exact .nil
  · exact .no rfl (.no rfl (.no rfl (.no rfl (.no rfl (.no rfl (.no rfl (.no rfl (.no rfl (.no rfl (.no rfl (.no rfl (.no rfl (.no rfl (.no rfl (.no rfl (.no rfl (.no rfl (.no rfl (.no rfl (.no rfl (.no rfl (.no rfl (.no rfl (.nil))))))))))))))))))))))))
  · rfl
  · rfl
  · rfl
  · rfl
  · exact fun c s h => h
  · exact hvkd _ rfl
  · rfl
  refine ad_done rfl ?_
  refine aw_cond rfl (fun h6 => ?_) (fun h6 => ?_)
  · refine aw_seq ?_
    refine aw_region ?_
    refine al_op rfl rfl rfl (opP_assign rfl (ev_const rfl)) ?_
    refine al_nil ?_
    refine aw_ret ?_
    have e : statedR f = false := stated_bad hbl hil hkl (by simpa [hbr] using hin1) (by simp only [argThere, h5, if_true]; rw [getD_at hrl, h6]; rfl)
    rw [e]; exact ret_id _ (.tmp rfl .nil) rfl trivial rfl rfl
  refine aw_skip ?_
  refine aw_region ?_
  refine al_op rfl rfl rfl (opP_move rfl (ev_tmp rfl)) ?_
  refine al_op rfl rfl rfl (opP_bin rfl (ev_tmp rfl) (ev_const rfl) rfl) ?_
  refine al_op rfl rfl rfl (opP_assign rfl (ev_tmp rfl)) ?_
  refine al_nil ?_
  refine ⟨k + 1, id, ⟨hkl, ?_⟩, by omega, Fit.of ⟨rfl, rfl, rfl, rfl, trivial⟩ ⟨rfl, rfl, rfl, rfl, rfl, rfl, by rw [← wrapS (by omega)]; rfl, trivial⟩ rfl rfl⟩
  rw [List.range_succ, List.all_append, hkk]; simp only [List.all_cons, List.all_nil, argThere, h5, if_true]; rw [getD_at hrl, h6]; rfl
end Go.AL
namespace Go.AL
open Go.Proofs
theorem e14 : Enters Tryz.prog 14 := enters_of Tryz.func14 (by kernel_rfl) (by kernel_rfl)
set_option maxRecDepth 100000 in
set_option maxHeartbeats 4000000 in
theorem c14 (f : Fn) (hf : f.Fits) : Ok Tryz.prog 14 [.dat none (fnD f)] [] (.v (.int .i64 (validateR f))) [] := by
  refine ok_of e14 Tryz.func14 rfl (by kernel_rfl) ?_
  intro cx hP hro hN hvk
  obtain ⟨P, ro, w0, Bin, N, R0, tk0, bl0, vk⟩ := cx
  subst hP hro hN
  have hvkd := vkd_of hvk
  refine aw_seq ?_
  refine aw_region ?_
  refine al_opc (k := 101) rfl rfl rfl ((hvk _).trans rfl) (opC_box rfl (ev_tmp rfl) rfl) ?_
  refine al_op rfl rfl rfl (opP_assign rfl (ev_const rfl)) ?_
  refine al_nil ?_
  refine aw_seq ?_
  refine aw_seq ?_
  refine aw_region ?_
  refine al_op rfl rfl rfl (opP_fieldAddr rfl (ev_tmp rfl) u27 rfl rfl s22 rfl) ?_
  refine al_op rfl rfl rfl (opP_load_pt rfl u22 rfl (ev_tmp rfl) rfl rfl) ?_
  refine al_op rfl rfl rfl (opP_len rfl u22 (ev_tmp rfl) (by first | exact lenA_ints | exact lenA_map | rfl)) ?_
  refine al_op rfl rfl rfl (opP_bin rfl (ev_tmp rfl) (ev_const rfl) rfl) ?_
  refine al_op rfl rfl rfl (opP_move rfl (ev_tmp rfl)) ?_
  refine al_opg rfl rfl rfl rfl rfl rfl (opP_fieldAddr rfl (ev_tmp rfl) u27 rfl rfl s22 rfl) ?_
  refine al_opg rfl rfl rfl rfl rfl rfl (opP_load_pt rfl u22 rfl (ev_when rfl id) rfl rfl) ?_
  refine al_opg rfl rfl rfl rfl rfl rfl (opP_len rfl u22 (ev_when rfl id) (by first | exact lenA_ints | exact lenA_map | rfl)) ?_
  refine al_opg rfl rfl rfl rfl rfl rfl (opP_bin rfl (ev_when rfl id) (ev_const rfl) rfl) ?_
  refine al_op rfl rfl rfl (opP_or rfl (ev_tmp rfl) (ev_when rfl id)) ?_
  refine al_op rfl rfl rfl (opP_move rfl (ev_tmp rfl)) ?_
  refine al_opg rfl rfl rfl rfl rfl rfl (opP_fieldAddr rfl (ev_tmp rfl) u27 rfl rfl s25 rfl) ?_
  refine al_opg rfl rfl rfl rfl rfl rfl (opP_load_pt rfl u25 rfl (ev_when rfl id) rfl rfl) ?_
  refine al_opg rfl rfl rfl rfl rfl rfl (opP_len rfl u25 (ev_when rfl id) (by first | exact lenA_ints | exact lenA_map | rfl)) ?_
  refine al_opg rfl rfl rfl rfl rfl rfl (opP_bin rfl (ev_when rfl id) (ev_const rfl) rfl) ?_
  refine al_op rfl rfl rfl (opP_or rfl (ev_tmp rfl) (ev_when rfl id)) ?_
  refine al_op rfl rfl rfl (opP_move rfl (ev_tmp rfl)) ?_
  refine al_opg rfl rfl rfl rfl rfl rfl (opP_fieldAddr rfl (ev_tmp rfl) u27 rfl rfl s25 rfl) ?_
  refine al_opg rfl rfl rfl rfl rfl rfl (opP_load_pt rfl u25 rfl (ev_when rfl id) rfl rfl) ?_
  refine al_opg rfl rfl rfl rfl rfl rfl (opP_len rfl u25 (ev_when rfl id) (by first | exact lenA_ints | exact lenA_map | rfl)) ?_
  refine al_opg rfl rfl rfl rfl rfl rfl (opP_bin rfl (ev_when rfl id) (ev_const rfl) rfl) ?_
  refine al_op rfl rfl rfl (opP_or rfl (ev_tmp rfl) (ev_when rfl id)) ?_
  refine al_nil ?_
  refine aw_cond rfl (fun h1 => ?_) (fun h1 => ?_)
  · refine aw_seq ?_
    refine aw_region ?_
    refine al_op rfl rfl rfl (opP_assign rfl (ev_const rfl)) ?_
    refine al_nil ?_
    refine aw_ret ?_
    have e : validateR f = 3 := by simp only [validateR, show bigR f = true from h1, cond_true, cond_false, Bool.not_true, Bool.not_false]
    rw [e]; exact ret_id _ (.tmp rfl .nil) rfl trivial rfl rfl
  have e1 : bigR f = false := h1
  have hbf := hf.blocks
  have hps := hf.params
  have hss := hf.slots
  refine aw_skip ?_
  refine aw_seq ?_
  refine aw_region ?_
  refine al_op rfl rfl rfl (opP_assign rfl (ev_const rfl)) ?_
  refine al_nil ?_
  refine aw_seq ?_
  refine aw_seq ?_
  refine aw_region ?_
  refine al_op rfl rfl rfl (opP_assign rfl (ev_const rfl)) ?_
  refine al_nil ?_
  refine aw_block ?_
  refine aw_loop' (α := Nat) (fun b => [(1, .pt 101 0), (3, .v (.int .i64 (total (f.blocks.take b)))), (4, .v (.int .i64 b))]) (fun b => [(101, .var [.dat none (.sl 1 (ints f.params)), .v (.int .i64 f.ret), .dat none (.sl 1 (ints f.slots)), .dat none (.sl 1 (f.blocks.map instsD))])]) (fun b => b ≤ f.blocks.length) (fun b => f.blocks.length - b) 0 (Nat.zero_le _) id (Fit.of ⟨rfl, trivial⟩ ⟨rfl, rfl, rfl, trivial⟩ rfl rfl) ?_
  rintro b hb
  refine aw_seq ?_
  refine aw_seq ?_
  refine aw_region ?_
  refine al_op rfl rfl rfl (opP_move rfl (ev_tmp rfl)) ?_
  refine al_op rfl rfl rfl (opP_fieldAddr rfl (ev_tmp rfl) u27 rfl rfl s25 rfl) ?_
  refine al_op rfl rfl rfl (opP_load_pt rfl u25 rfl (ev_tmp rfl) rfl rfl) ?_
  refine al_op rfl rfl rfl (opP_len rfl u25 (ev_tmp rfl) (by first | exact lenA_ints | exact lenA_map | rfl)) ?_
  refine al_op rfl rfl rfl (opP_bin rfl (ev_tmp rfl) (ev_tmp rfl) rfl) ?_
  refine al_nil ?_
  refine aw_cond rfl (fun h2 => ?_) (fun h2 => ?_)
  · have hbl : b < f.blocks.length := by simpa using h2
    have hwr : IntKind.i64.wrap ((total (f.blocks.take b) : Int) + (f.blocks[b].length : Nat)) = (total (f.blocks.take (b + 1)) : Nat) := by
      have h1 := hf.total
      have h2 := total_take_le f.blocks (b + 1)
      rw [total_take_succ hbl] at h2 ⊢
      rw [wrapI ⟨by omega, by omega⟩]; omega
    refine aw_skip ?_
    refine aw_seq ?_
    refine aw_block ?_
    refine aw_region ?_
    refine al_op rfl rfl rfl (opP_move rfl (ev_tmp rfl)) ?_
    refine al_op rfl rfl rfl (opP_fieldAddr rfl (ev_tmp rfl) u27 rfl rfl s25 rfl) ?_
    refine al_op rfl rfl rfl (opP_load_pt rfl u25 rfl (ev_tmp rfl) rfl rfl) ?_
    refine al_op rfl rfl rfl (opP_move rfl (ev_tmp rfl)) ?_
    refine al_op rfl rfl rfl (opP_index_dat rfl u25 s35 (ev_tmp rfl) (ev_tmp rfl) (fun _ => Int.natCast_nonneg _) (fun _ => blocks_get hbl)) ?_
    refine al_op rfl rfl rfl (opP_load_pr rfl u35 rfl (ev_tmp rfl)) ?_
    refine al_op rfl rfl rfl (opP_len rfl u35 (ev_tmp rfl) (by first | exact lenA_ints | exact lenA_map | rfl)) ?_
    refine al_op rfl rfl rfl (opP_bin rfl (ev_tmp rfl) (ev_tmp rfl) rfl) ?_
    refine al_op rfl rfl rfl (opP_assign rfl (ev_tmp rfl)) ?_
    refine al_nil ?_
    refine aw_region ?_
    refine al_op rfl rfl rfl (opP_move rfl (ev_tmp rfl)) ?_
    refine al_op rfl rfl rfl (opP_bin rfl (ev_tmp rfl) (ev_const rfl) rfl) ?_
    refine al_op rfl rfl rfl (opP_assign rfl (ev_tmp rfl)) ?_
    refine al_nil ?_
    refine ⟨b + 1, id, hbl, by omega, Fit.of ⟨rfl, trivial⟩ ⟨rfl, by rw [← hwr]; rfl, by rw [← wrapS (by omega)]; rfl, trivial⟩ rfl rfl⟩
  have e0 : b = f.blocks.length := by simp at h2; omega
  subst e0
  rw [List.take_length]
  refine aw_exit ?_
  refine aw_seq ?_
  refine aw_seq ?_
  refine aw_region ?_
  refine al_op rfl rfl rfl (opP_move rfl (ev_tmp rfl)) ?_
  refine al_op rfl rfl rfl (opP_bin rfl (ev_tmp rfl) (ev_const rfl) rfl) ?_
  refine al_nil ?_
  refine aw_cond rfl (fun h3 => ?_) (fun h3 => ?_)
  · refine aw_seq ?_
    refine aw_region ?_
    refine al_op rfl rfl rfl (opP_assign rfl (ev_const rfl)) ?_
    refine al_nil ?_
    refine aw_ret ?_
    have e : validateR f = 3 := by simp only [validateR, e1, show manyR f = true from h3, cond_true, cond_false, Bool.not_true, Bool.not_false]
    rw [e]; exact ret_id _ (.tmp rfl .nil) rfl trivial rfl rfl
  have e2 : manyR f = false := h3
  refine aw_skip ?_
  refine aw_seq ?_
  refine aw_seq ?_
  refine aw_region ?_
  refine al_op rfl rfl rfl (opP_fieldAddr rfl (ev_tmp rfl) u27 rfl rfl s3 rfl) ?_
  refine al_op rfl rfl rfl (opP_load_pt rfl u3 rfl (ev_tmp rfl) rfl rfl) ?_
  refine al_op rfl rfl rfl (opP_bin rfl (ev_tmp rfl) (ev_const rfl) rfl) ?_
  refine al_op rfl rfl rfl (opP_move rfl (ev_tmp rfl)) ?_
  refine al_opg rfl rfl rfl rfl rfl rfl (opP_fieldAddr rfl (ev_tmp rfl) u27 rfl rfl s3 rfl) ?_
  refine al_opg rfl rfl rfl rfl rfl rfl (opP_load_pt rfl u3 rfl (ev_when rfl id) rfl rfl) ?_
  refine al_opg rfl rfl rfl rfl rfl rfl (opP_bin rfl (ev_when rfl id) (ev_const rfl) rfl) ?_
  refine al_op rfl rfl rfl (opP_or rfl (ev_tmp rfl) (ev_when rfl id)) ?_
  refine al_nil ?_
  refine aw_cond rfl (fun h4 => ?_) (fun h4 => ?_)
  · refine aw_seq ?_
    refine aw_region ?_
    refine al_op rfl rfl rfl (opP_assign rfl (ev_const rfl)) ?_
    refine al_nil ?_
    refine aw_ret ?_
    have e : validateR f = 1 := by simp only [validateR, e1, e2, show retBad f = true from h4, cond_true, cond_false, Bool.not_true, Bool.not_false]
    rw [e]; exact ret_id _ (.tmp rfl .nil) rfl trivial rfl rfl
  have e3 : retBad f = false := h4
  refine aw_skip ?_
  refine aw_seq ?_
  refine aw_seq ?_
  refine aw_region ?_
  refine al_op rfl rfl rfl (opP_assign rfl (ev_const rfl)) ?_
  refine al_nil ?_
  refine aw_block ?_
  refine aw_loop' (α := Nat) (fun p => [(1, .pt 101 0), (5, .v (.int .i64 p))]) (fun p => [(101, .var [.dat none (.sl 1 (ints f.params)), .v (.int .i64 f.ret), .dat none (.sl 1 (ints f.slots)), .dat none (.sl 1 (f.blocks.map instsD))])]) (fun p => p ≤ f.params.length ∧ (f.params.take p).all isW = true) (fun p => f.params.length - p) 0 ⟨Nat.zero_le _, rfl⟩ id (Fit.of ⟨rfl, trivial⟩ ⟨rfl, rfl, trivial⟩ rfl rfl) ?_
  rintro p ⟨hp, alp⟩
  refine aw_seq ?_
  refine aw_seq ?_
  refine aw_region ?_
  refine al_op rfl rfl rfl (opP_move rfl (ev_tmp rfl)) ?_
  refine al_op rfl rfl rfl (opP_fieldAddr rfl (ev_tmp rfl) u27 rfl rfl s22 rfl) ?_
  refine al_op rfl rfl rfl (opP_load_pt rfl u22 rfl (ev_tmp rfl) rfl rfl) ?_
  refine al_op rfl rfl rfl (opP_len rfl u22 (ev_tmp rfl) (by first | exact lenA_ints | exact lenA_map | rfl)) ?_
  refine al_op rfl rfl rfl (opP_bin rfl (ev_tmp rfl) (ev_tmp rfl) rfl) ?_
  refine al_nil ?_
  refine aw_cond rfl (fun h5 => ?_) (fun h5 => ?_)
  · have lp : p < f.params.length := by simpa using h5
    refine aw_skip ?_
    refine aw_seq ?_
    refine aw_block ?_
    refine aw_seq ?_
    refine aw_region ?_
    refine al_op rfl rfl rfl (opP_fieldAddr rfl (ev_tmp rfl) u27 rfl rfl s22 rfl) ?_
    refine al_op rfl rfl rfl (opP_load_pt rfl u22 rfl (ev_tmp rfl) rfl rfl) ?_
    refine al_op rfl rfl rfl (opP_move rfl (ev_tmp rfl)) ?_
    refine al_op rfl rfl rfl (opP_index_dat rfl u22 s3 (ev_tmp rfl) (ev_tmp rfl) (fun _ => Int.natCast_nonneg _) (fun _ => ints_get lp)) ?_
    refine al_op rfl rfl rfl (opP_load_pr rfl u3 rfl (ev_tmp rfl)) ?_
    refine al_call (id) rfl rfl rfl (callOf_func rfl (.cons (ev_tmp rfl) .nil)) (c42 f.params[p]) (by repeat' (first | refine Vw.stDOf ?_ | refine Vw.ptOf rfl rfl rfl ?_ | refine Vw.prvOf ?_ | refine Vw.cloOf ?_ | constructor)) (fun _ h => absurd h (by simp)) rfl rfl rfl (fun _ h => absurd h (by simp)) ?_
    refine al_op rfl rfl rfl (opP_not rfl (ev_tmp rfl)) ?_
    refine al_nil ?_
    refine aw_cond rfl (fun h6 => ?_) (fun h6 => ?_)
    · refine aw_seq ?_
      refine aw_region ?_
      refine al_op rfl rfl rfl (opP_assign rfl (ev_const rfl)) ?_
      refine al_nil ?_
      refine aw_ret ?_
      have e : validateR f = 1 := by simp only [validateR, e1, e2, e3, show f.params.all isW = false from List.all_eq_false.2 ⟨_, List.getElem_mem lp, by simpa using h6⟩, cond_true, cond_false, Bool.not_true, Bool.not_false]
      rw [e]; exact ret_id _ (.tmp rfl .nil) rfl trivial rfl rfl
    refine aw_skip ?_
    refine aw_region ?_
    refine al_op rfl rfl rfl (opP_move rfl (ev_tmp rfl)) ?_
    refine al_op rfl rfl rfl (opP_bin rfl (ev_tmp rfl) (ev_const rfl) rfl) ?_
    refine al_op rfl rfl rfl (opP_assign rfl (ev_tmp rfl)) ?_
    refine al_nil ?_
    refine ⟨p + 1, id, ⟨lp, ?_⟩, by omega, Fit.of ⟨rfl, trivial⟩ ⟨rfl, by rw [← wrapS (by omega)]; rfl, trivial⟩ rfl rfl⟩
    rw [List.take_succ_eq_append_getElem lp, List.all_append, alp]; simp only [List.all_cons, List.all_nil, show isW f.params[p] = true by simpa using h6]; rfl
  have e0 : p = f.params.length := by simp at h5; omega
  subst e0
  rw [List.take_length] at alp
  refine aw_exit ?_
  refine aw_seq ?_
  refine aw_seq ?_
  refine aw_region ?_
  refine al_op rfl rfl rfl (opP_assign rfl (ev_const rfl)) ?_
  refine al_nil ?_
  refine aw_block ?_
  refine aw_loop' (α := Nat) (fun q => [(1, .pt 101 0), (6, .v (.int .i64 q))]) (fun q => [(101, .var [.dat none (.sl 1 (ints f.params)), .v (.int .i64 f.ret), .dat none (.sl 1 (ints f.slots)), .dat none (.sl 1 (f.blocks.map instsD))])]) (fun q => q ≤ f.slots.length ∧ (f.slots.take q).all (fun n => !(slotBad n)) = true) (fun q => f.slots.length - q) 0 ⟨Nat.zero_le _, rfl⟩ id (Fit.of ⟨rfl, trivial⟩ ⟨rfl, rfl, trivial⟩ rfl rfl) ?_
  rintro q ⟨hq, alq⟩
  refine aw_seq ?_
  refine aw_seq ?_
  refine aw_region ?_
  refine al_op rfl rfl rfl (opP_move rfl (ev_tmp rfl)) ?_
  refine al_op rfl rfl rfl (opP_fieldAddr rfl (ev_tmp rfl) u27 rfl rfl s22 rfl) ?_
  refine al_op rfl rfl rfl (opP_load_pt rfl u22 rfl (ev_tmp rfl) rfl rfl) ?_
  refine al_op rfl rfl rfl (opP_len rfl u22 (ev_tmp rfl) (by first | exact lenA_ints | exact lenA_map | rfl)) ?_
  refine al_op rfl rfl rfl (opP_bin rfl (ev_tmp rfl) (ev_tmp rfl) rfl) ?_
  refine al_nil ?_
  refine aw_cond rfl (fun h7 => ?_) (fun h7 => ?_)
  · have lq : q < f.slots.length := by simpa using h7
    refine aw_skip ?_
    refine aw_seq ?_
    refine aw_block ?_
    refine aw_seq ?_
    refine aw_region ?_
    refine al_op rfl rfl rfl (opP_fieldAddr rfl (ev_tmp rfl) u27 rfl rfl s22 rfl) ?_
    refine al_op rfl rfl rfl (opP_load_pt rfl u22 rfl (ev_tmp rfl) rfl rfl) ?_
    refine al_op rfl rfl rfl (opP_move rfl (ev_tmp rfl)) ?_
    refine al_op rfl rfl rfl (opP_index_dat rfl u22 s3 (ev_tmp rfl) (ev_tmp rfl) (fun _ => Int.natCast_nonneg _) (fun _ => ints_get lq)) ?_
    refine al_op rfl rfl rfl (opP_load_pr rfl u3 rfl (ev_tmp rfl)) ?_
    refine al_op rfl rfl rfl (opP_bin rfl (ev_tmp rfl) (ev_const rfl) rfl) ?_
    refine al_op rfl rfl rfl (opP_move rfl (ev_tmp rfl)) ?_
    refine al_opg rfl rfl rfl rfl rfl rfl (opP_fieldAddr rfl (ev_tmp rfl) u27 rfl rfl s22 rfl) ?_
    refine al_opg rfl rfl rfl rfl rfl rfl (opP_load_pt rfl u22 rfl (ev_when rfl id) rfl rfl) ?_
    refine al_opg rfl rfl rfl rfl rfl rfl (opP_move rfl (ev_tmp rfl)) ?_
    refine al_opg rfl rfl rfl rfl rfl rfl (opP_index_dat rfl u22 s3 (ev_when rfl id) (ev_when rfl id) (fun _ => Int.natCast_nonneg _) (fun _ => ints_get lq)) ?_
    refine al_opg rfl rfl rfl rfl rfl rfl (opP_load_pr rfl u3 rfl (ev_when rfl id)) ?_
    refine al_opg rfl rfl rfl rfl rfl rfl (opP_bin rfl (ev_when rfl id) (ev_const rfl) rfl) ?_
    refine al_op rfl rfl rfl (opP_or rfl (ev_tmp rfl) (ev_when rfl id)) ?_
    refine al_nil ?_
    refine aw_cond rfl (fun h8 => ?_) (fun h8 => ?_)
    · refine aw_seq ?_
      refine aw_region ?_
      refine al_op rfl rfl rfl (opP_assign rfl (ev_const rfl)) ?_
      refine al_nil ?_
      refine aw_ret ?_
      have e : validateR f = 1 := by simp only [validateR, e1, e2, e3, alp, show slotsOk f = false from List.all_eq_false.2 ⟨_, List.getElem_mem lq, by rw [show slotBad f.slots[q] = true from h8]; simp⟩, cond_true, cond_false, Bool.not_true, Bool.not_false]
      rw [e]; exact ret_id _ (.tmp rfl .nil) rfl trivial rfl rfl
    refine aw_skip ?_
    refine aw_region ?_
    refine al_op rfl rfl rfl (opP_move rfl (ev_tmp rfl)) ?_
    refine al_op rfl rfl rfl (opP_bin rfl (ev_tmp rfl) (ev_const rfl) rfl) ?_
    refine al_op rfl rfl rfl (opP_assign rfl (ev_tmp rfl)) ?_
    refine al_nil ?_
    refine ⟨q + 1, id, ⟨lq, ?_⟩, by omega, Fit.of ⟨rfl, trivial⟩ ⟨rfl, by rw [← wrapS (by omega)]; rfl, trivial⟩ rfl rfl⟩
    rw [List.take_succ_eq_append_getElem lq, List.all_append, alq]; simp only [List.all_cons, List.all_nil, show slotBad f.slots[q] = false from h8]; rfl
  have e0 : q = f.slots.length := by simp at h7; omega
  subst e0
  rw [List.take_length] at alq
  have e5 : slotsOk f = true := alq
  refine aw_exit ?_
  refine aw_seq ?_
  refine aw_seq ?_
  refine aw_region ?_
  refine al_op rfl rfl rfl (opP_assign rfl (ev_const rfl)) ?_
  refine al_nil ?_
  refine aw_block ?_
  refine aw_loop' (α := Nat) (fun b => [(1, .pt 101 0), (7, .v (.int .i64 b))]) (fun b => [(101, .var [.dat none (.sl 1 (ints f.params)), .v (.int .i64 f.ret), .dat none (.sl 1 (ints f.slots)), .dat none (.sl 1 (f.blocks.map instsD))])]) (fun b => b ≤ f.blocks.length ∧ (f.blocks.take b).all (fun l => l.all (argumentR f)) = true) (fun b => f.blocks.length - b) 0 ⟨Nat.zero_le _, rfl⟩ id (Fit.of ⟨rfl, trivial⟩ ⟨rfl, rfl, trivial⟩ rfl rfl) ?_
  rintro b ⟨hb, alb⟩
  refine aw_seq ?_
  refine aw_seq ?_
  refine aw_region ?_
  refine al_op rfl rfl rfl (opP_move rfl (ev_tmp rfl)) ?_
  refine al_op rfl rfl rfl (opP_fieldAddr rfl (ev_tmp rfl) u27 rfl rfl s25 rfl) ?_
  refine al_op rfl rfl rfl (opP_load_pt rfl u25 rfl (ev_tmp rfl) rfl rfl) ?_
  refine al_op rfl rfl rfl (opP_len rfl u25 (ev_tmp rfl) (by first | exact lenA_ints | exact lenA_map | rfl)) ?_
  refine al_op rfl rfl rfl (opP_bin rfl (ev_tmp rfl) (ev_tmp rfl) rfl) ?_
  refine al_nil ?_
  refine aw_cond rfl (fun h9 => ?_) (fun h9 => ?_)
  · have lb : b < f.blocks.length := by simpa using h9
    have hbi := hf.insts _ (List.getElem_mem lb)
    refine aw_skip ?_
    refine aw_seq ?_
    refine aw_block ?_
    refine aw_seq ?_
    refine aw_region ?_
    refine al_op rfl rfl rfl (opP_assign rfl (ev_const rfl)) ?_
    refine al_nil ?_
    refine aw_block ?_
    refine aw_loop' (α := Nat) (fun i => [(1, .pt 101 0), (7, .v (.int .i64 b)), (8, .v (.int .i64 i))]) (fun i => [(101, .var [.dat none (.sl 1 (ints f.params)), .v (.int .i64 f.ret), .dat none (.sl 1 (ints f.slots)), .dat none (.sl 1 (f.blocks.map instsD))])]) (fun i => i ≤ f.blocks[b].length ∧ (f.blocks[b].take i).all (argumentR f) = true) (fun i => f.blocks[b].length - i) 0 ⟨Nat.zero_le _, rfl⟩ id (Fit.of ⟨rfl, trivial⟩ ⟨rfl, rfl, rfl, trivial⟩ rfl rfl) ?_
    rintro i ⟨hi, ali⟩
    refine aw_seq ?_
    refine aw_seq ?_
    refine aw_region ?_
    refine al_op rfl rfl rfl (opP_move rfl (ev_tmp rfl)) ?_
    refine al_op rfl rfl rfl (opP_fieldAddr rfl (ev_tmp rfl) u27 rfl rfl s25 rfl) ?_
    refine al_op rfl rfl rfl (opP_load_pt rfl u25 rfl (ev_tmp rfl) rfl rfl) ?_
    refine al_op rfl rfl rfl (opP_move rfl (ev_tmp rfl)) ?_
    refine al_op rfl rfl rfl (opP_index_dat rfl u25 s35 (ev_tmp rfl) (ev_tmp rfl) (fun _ => Int.natCast_nonneg _) (fun _ => blocks_get lb)) ?_
    refine al_op rfl rfl rfl (opP_load_pr rfl u35 rfl (ev_tmp rfl)) ?_
    refine al_op rfl rfl rfl (opP_len rfl u35 (ev_tmp rfl) (by first | exact lenA_ints | exact lenA_map | rfl)) ?_
    refine al_op rfl rfl rfl (opP_bin rfl (ev_tmp rfl) (ev_tmp rfl) rfl) ?_
    refine al_nil ?_
    refine aw_condS rfl (fun h10 => ?_) (fun h10 => ?_)
    · refine aw_exit ?_
      refine aw_region ?_
      refine al_op rfl rfl rfl (opP_move rfl (ev_tmp rfl)) ?_
      refine al_op rfl rfl rfl (opP_bin rfl (ev_tmp rfl) (ev_const rfl) rfl) ?_
      refine al_op rfl rfl rfl (opP_assign rfl (ev_tmp rfl)) ?_
      refine al_nil ?_
      refine ⟨b + 1, id, ⟨lb, ?_⟩, by omega, Fit.of ⟨rfl, trivial⟩ ⟨rfl, by rw [← wrapS (by omega)]; rfl, trivial⟩ rfl rfl⟩
      have e : i = f.blocks[b].length := by simp at h10; omega
      subst e
      rw [List.take_length] at ali
      rw [List.take_succ_eq_append_getElem lb, List.all_append, alb]; simp only [List.all_cons, List.all_nil, ali]; rfl
    have li : i < f.blocks[b].length := by simpa using h10
    have hxf := hf.inst _ (List.getElem_mem lb) _ (List.getElem_mem li)
    refine aw_skip ?_
    refine aw_seq ?_
    refine aw_block ?_
    refine aw_seq ?_
    refine aw_draw mixed ?_
    apply ad_phase' [⟨0, 110, _, [], []⟩, ⟨1, 111, _, [], []⟩, ⟨2, 112, _, [1], []⟩, ⟨3, 113, _, [], []⟩, ⟨4, 114, _, [1, 2, 3], []⟩, ⟨5, 115, _, [1, 2, 3, 4], []⟩, ⟨6, 116, _, [], []⟩, ⟨7, 117, _, [1, 2, 3, 4, 5, 6], []⟩, ⟨8, 118, _, [1, 2, 3, 4, 5, 6, 7], []⟩, ⟨9, 119, _, [0, 1, 2, 3, 4, 5, 6, 7, 8], []⟩, ⟨10, 120, _, [0, 1, 2, 3, 4, 5, 6, 7, 8, 9], []⟩] [] (fuelT := 0)
    · skip
      refine .cons rfl (stepD_op rfl (opP_load_ptn (cs := [.dat none (.sl 1 (ints f.params)), .v (.int .i64 f.ret), .dat none (.sl 1 (ints f.slots)), .dat none (.sl 1 (f.blocks.map instsD))]) rfl u27 rfl s27 (ev_tmp rfl) rfl rfl)) ?_
      refine .cons rfl (stepD_op rfl (opP_fieldAddr rfl (ev_tmp rfl) u27 rfl rfl s25 rfl)) ?_
      refine .cons rfl (stepD_op rfl (opP_load_pt rfl u25 rfl (ev_tmp rfl) rfl rfl)) ?_
      refine .cons rfl (stepD_op rfl (opP_move rfl (ev_tmp rfl))) ?_
      refine .cons rfl (stepD_op rfl (opP_index_dat rfl u25 s35 (ev_tmp rfl) (ev_tmp rfl) (fun _ => Int.natCast_nonneg _) (fun _ => blocks_get lb))) ?_
      refine .cons rfl (stepD_op rfl (opP_load_pr rfl u35 rfl (ev_tmp rfl))) ?_
      refine .cons rfl (stepD_op rfl (opP_move rfl (ev_tmp rfl))) ?_
      refine .cons rfl (stepD_op rfl (opP_index_dat rfl u35 s38 (ev_tmp rfl) (ev_tmp rfl) (fun _ => Int.natCast_nonneg _) (fun _ => insts_get li))) ?_
      refine .cons rfl (stepD_op rfl (opP_load_prn rfl u38 rfl s38 (ev_tmp rfl) rfl)) ?_
      refine .cons rfl (stepD_call (id) rfl (callOf_func rfl (.cons (ev_tmp rfl) (.cons (ev_tmp rfl) .nil))) (c43 f f.blocks[b][i] hxf) (by repeat' (first | refine Vw.stDOf ?_ | refine Vw.ptOf rfl rfl rfl ?_ | refine Vw.prvOf ?_ | refine Vw.cloOf ?_ | constructor)) rfl rfl rfl (fun _ => rfl) (fun _ => rfl)) ?_
      refine .cons rfl (stepD_op rfl (opP_not rfl (ev_tmp rfl))) ?_
      exact .nil
    · exact .no rfl (.no rfl (.no rfl (.no rfl (.no rfl (.no rfl (.no rfl (.no rfl (.no rfl (.no rfl (.no rfl (.nil)))))))))))
    · rfl
    · rfl
    · rfl
    · rfl
    · exact fun c s h => h
    · exact hvkd _ rfl
    · rfl
    refine ad_done rfl ?_
    refine aw_cond rfl (fun h11 => ?_) (fun h11 => ?_)
    · refine aw_seq ?_
      refine aw_region ?_
      refine al_op rfl rfl rfl (opP_assign rfl (ev_const rfl)) ?_
      refine al_nil ?_
      refine aw_ret ?_
      have e : validateR f = 1 := by simp only [validateR, e1, e2, e3, alp, e5, show argsOk f = false from List.all_eq_false.2 ⟨_, List.getElem_mem lb, by simp only [Bool.not_eq_true]; exact List.all_eq_false.2 ⟨_, List.getElem_mem li, by simpa using h11⟩⟩, cond_true, cond_false, Bool.not_true, Bool.not_false]
      rw [e]; exact ret_id _ (.tmp rfl .nil) rfl trivial rfl rfl
    refine aw_skip ?_
    refine aw_region ?_
    refine al_op rfl rfl rfl (opP_move rfl (ev_tmp rfl)) ?_
    refine al_op rfl rfl rfl (opP_bin rfl (ev_tmp rfl) (ev_const rfl) rfl) ?_
    refine al_op rfl rfl rfl (opP_assign rfl (ev_tmp rfl)) ?_
    refine al_nil ?_
    refine ⟨i + 1, id, ⟨li, ?_⟩, by omega, Fit.of ⟨rfl, trivial⟩ ⟨rfl, rfl, by rw [← wrapS (by omega)]; rfl, trivial⟩ rfl rfl⟩
    rw [List.take_succ_eq_append_getElem li, List.all_append, ali]; simp only [List.all_cons, List.all_nil, show argumentR f f.blocks[b][i] = true by simpa using h11]; rfl
  have e0 : b = f.blocks.length := by simp at h9; omega
  subst e0
  rw [List.take_length] at alb
  have e6 : argsOk f = true := alb
  refine aw_exit ?_
  refine aw_seq ?_
  refine aw_seq ?_
  refine aw_region ?_
  refine al_op rfl rfl rfl (opP_load_ptn rfl u27 rfl s27 (ev_tmp rfl) rfl rfl) ?_
  refine al_call (id) rfl rfl rfl (callOf_func rfl (.cons (ev_tmp rfl) .nil)) (c44 f hf) (by repeat' (first | refine Vw.stDOf ?_ | refine Vw.ptOf rfl rfl rfl ?_ | refine Vw.prvOf ?_ | refine Vw.cloOf ?_ | constructor)) (fun _ h => absurd h (by simp)) rfl rfl rfl (fun _ h => absurd h (by simp)) ?_
  refine al_op rfl rfl rfl (opP_not rfl (ev_tmp rfl)) ?_
  refine al_nil ?_
  refine aw_cond rfl (fun h12 => ?_) (fun h12 => ?_)
  · refine aw_seq ?_
    refine aw_region ?_
    refine al_op rfl rfl rfl (opP_assign rfl (ev_const rfl)) ?_
    refine al_nil ?_
    refine aw_ret ?_
    have e : validateR f = 7 := by simp only [validateR, e1, e2, e3, alp, e5, e6, show rulesR f = false by simpa using h12, cond_true, cond_false, Bool.not_true, Bool.not_false]
    rw [e]; exact ret_id _ (.tmp rfl .nil) rfl trivial rfl rfl
  have e7 : rulesR f = true := by simpa using h12
  have hg := graph_ok hf e1 e6
  refine aw_skip ?_
  refine aw_seq ?_
  refine aw_seq ?_
  refine aw_region ?_
  refine al_op rfl rfl rfl (opP_assign rfl (ev_const rfl)) ?_
  refine al_nil ?_
  refine aw_block ?_
  refine aw_loop' (α := Nat) (fun c => [(1, .pt 101 0), (9, .v (.int .i64 c))]) (fun c => [(101, .var [.dat none (.sl 1 (ints f.params)), .v (.int .i64 f.ret), .dat none (.sl 1 (ints f.slots)), .dat none (.sl 1 (f.blocks.map instsD))])]) (fun c => c ≤ f.blocks.length ∧ (f.blocks.take c).all (fun l => l.all (typedR f)) = true) (fun c => f.blocks.length - c) 0 ⟨Nat.zero_le _, rfl⟩ id (Fit.of ⟨rfl, trivial⟩ ⟨rfl, rfl, trivial⟩ rfl rfl) ?_
  rintro c ⟨hc, alc⟩
  refine aw_seq ?_
  refine aw_seq ?_
  refine aw_region ?_
  refine al_op rfl rfl rfl (opP_move rfl (ev_tmp rfl)) ?_
  refine al_op rfl rfl rfl (opP_fieldAddr rfl (ev_tmp rfl) u27 rfl rfl s25 rfl) ?_
  refine al_op rfl rfl rfl (opP_load_pt rfl u25 rfl (ev_tmp rfl) rfl rfl) ?_
  refine al_op rfl rfl rfl (opP_len rfl u25 (ev_tmp rfl) (by first | exact lenA_ints | exact lenA_map | rfl)) ?_
  refine al_op rfl rfl rfl (opP_bin rfl (ev_tmp rfl) (ev_tmp rfl) rfl) ?_
  refine al_nil ?_
  refine aw_condS rfl (fun h13 => ?_) (fun h13 => ?_)
  · have e0 : c = f.blocks.length := by simp at h13; omega
    subst e0
    rw [List.take_length] at alc
    have e8 : typesOk f = true := alc
    have hne : ∀ l ∈ f.blocks, l ≠ [] := blockOk_ne (by unfold rulesR at e7; simp only [Bool.and_eq_true] at e7; exact e7.1.1)
    refine aw_exit ?_
    refine aw_seq ?_
    refine aw_seq ?_
    refine aw_region ?_
    refine al_op rfl rfl rfl (opP_load_ptn rfl u27 rfl s27 (ev_tmp rfl) rfl rfl) ?_
    refine al_call (id) rfl rfl rfl (callOf_func rfl (.cons (ev_tmp rfl) .nil)) (c46 f hf hne hg (argsOk_at e6)) (by repeat' (first | refine Vw.stDOf ?_ | refine Vw.ptOf rfl rfl rfl ?_ | refine Vw.prvOf ?_ | refine Vw.cloOf ?_ | constructor)) (fun _ h => absurd h (by simp)) rfl rfl rfl (fun _ h => absurd h (by simp)) ?_
    refine al_op rfl rfl rfl (opP_not rfl (ev_tmp rfl)) ?_
    refine al_nil ?_
    refine aw_cond rfl (fun h16 => ?_) (fun h16 => ?_)
    · refine aw_seq ?_
      refine aw_region ?_
      refine al_op rfl rfl rfl (opP_assign rfl (ev_const rfl)) ?_
      refine al_nil ?_
      refine aw_ret ?_
      have e : validateR f = 9 := by simp only [validateR, e1, e2, e3, alp, e5, e6, e7, e8, show statedR f = false by simpa using h16, cond_true, cond_false, Bool.not_true, Bool.not_false]
      rw [e]; exact ret_id _ (.tmp rfl .nil) rfl trivial rfl rfl
    refine aw_skip ?_
    refine aw_seq ?_
    refine aw_region ?_
    refine al_op rfl rfl rfl (opP_assign rfl (ev_const rfl)) ?_
    refine al_nil ?_
    refine aw_ret ?_
    have e : validateR f = 0 := by simp only [validateR, e1, e2, e3, alp, e5, e6, e7, e8, show statedR f = true by simpa using h16, cond_true, cond_false, Bool.not_true, Bool.not_false]
    rw [e]; exact ret_id _ (.tmp rfl .nil) rfl trivial rfl rfl
  have lc : c < f.blocks.length := by simpa using h13
  have hci := hf.insts _ (List.getElem_mem lc)
  refine aw_skip ?_
  refine aw_seq ?_
  refine aw_block ?_
  refine aw_seq ?_
  refine aw_region ?_
  refine al_op rfl rfl rfl (opP_assign rfl (ev_const rfl)) ?_
  refine al_nil ?_
  refine aw_block ?_
  refine aw_loop' (α := Nat) (fun j => [(1, .pt 101 0), (9, .v (.int .i64 c)), (10, .v (.int .i64 j))]) (fun j => [(101, .var [.dat none (.sl 1 (ints f.params)), .v (.int .i64 f.ret), .dat none (.sl 1 (ints f.slots)), .dat none (.sl 1 (f.blocks.map instsD))])]) (fun j => j ≤ f.blocks[c].length ∧ (f.blocks[c].take j).all (typedR f) = true) (fun j => f.blocks[c].length - j) 0 ⟨Nat.zero_le _, rfl⟩ id (Fit.of ⟨rfl, trivial⟩ ⟨rfl, rfl, rfl, trivial⟩ rfl rfl) ?_
  rintro j ⟨hj, alj⟩
  refine aw_seq ?_
  refine aw_seq ?_
  refine aw_region ?_
  refine al_op rfl rfl rfl (opP_move rfl (ev_tmp rfl)) ?_
  refine al_op rfl rfl rfl (opP_fieldAddr rfl (ev_tmp rfl) u27 rfl rfl s25 rfl) ?_
  refine al_op rfl rfl rfl (opP_load_pt rfl u25 rfl (ev_tmp rfl) rfl rfl) ?_
  refine al_op rfl rfl rfl (opP_move rfl (ev_tmp rfl)) ?_
  refine al_op rfl rfl rfl (opP_index_dat rfl u25 s35 (ev_tmp rfl) (ev_tmp rfl) (fun _ => Int.natCast_nonneg _) (fun _ => blocks_get lc)) ?_
  refine al_op rfl rfl rfl (opP_load_pr rfl u35 rfl (ev_tmp rfl)) ?_
  refine al_op rfl rfl rfl (opP_len rfl u35 (ev_tmp rfl) (by first | exact lenA_ints | exact lenA_map | rfl)) ?_
  refine al_op rfl rfl rfl (opP_bin rfl (ev_tmp rfl) (ev_tmp rfl) rfl) ?_
  refine al_nil ?_
  refine aw_condS rfl (fun h14 => ?_) (fun h14 => ?_)
  · refine aw_exit ?_
    refine aw_region ?_
    refine al_op rfl rfl rfl (opP_move rfl (ev_tmp rfl)) ?_
    refine al_op rfl rfl rfl (opP_bin rfl (ev_tmp rfl) (ev_const rfl) rfl) ?_
    refine al_op rfl rfl rfl (opP_assign rfl (ev_tmp rfl)) ?_
    refine al_nil ?_
    refine ⟨c + 1, id, ⟨lc, ?_⟩, by omega, Fit.of ⟨rfl, trivial⟩ ⟨rfl, by rw [← wrapS (by omega)]; rfl, trivial⟩ rfl rfl⟩
    have e : j = f.blocks[c].length := by simp at h14; omega
    subst e
    rw [List.take_length] at alj
    rw [List.take_succ_eq_append_getElem lc, List.all_append, alc]; simp only [List.all_cons, List.all_nil, alj]; rfl
  have lj : j < f.blocks[c].length := by simpa using h14
  have hxf := hf.inst _ (List.getElem_mem lc) _ (List.getElem_mem lj)
  refine aw_skip ?_
  refine aw_seq ?_
  refine aw_block ?_
  refine aw_seq ?_
  refine aw_draw mixed ?_
  apply ad_phase' [⟨0, 141, _, [], []⟩, ⟨1, 142, _, [], []⟩, ⟨2, 143, _, [1], []⟩, ⟨3, 144, _, [], []⟩, ⟨4, 145, _, [1, 2, 3], []⟩, ⟨5, 146, _, [1, 2, 3, 4], []⟩, ⟨6, 147, _, [], []⟩, ⟨7, 148, _, [1, 2, 3, 4, 5, 6], []⟩, ⟨8, 149, _, [1, 2, 3, 4, 5, 6, 7], []⟩, ⟨9, 150, _, [0, 1, 2, 3, 4, 5, 6, 7, 8], []⟩, ⟨10, 151, _, [0, 1, 2, 3, 4, 5, 6, 7, 8, 9], []⟩] [] (fuelT := 0)
  · skip
    refine .cons rfl (stepD_op rfl (opP_load_ptn (cs := [.dat none (.sl 1 (ints f.params)), .v (.int .i64 f.ret), .dat none (.sl 1 (ints f.slots)), .dat none (.sl 1 (f.blocks.map instsD))]) rfl u27 rfl s27 (ev_tmp rfl) rfl rfl)) ?_
    refine .cons rfl (stepD_op rfl (opP_fieldAddr rfl (ev_tmp rfl) u27 rfl rfl s25 rfl)) ?_
    refine .cons rfl (stepD_op rfl (opP_load_pt rfl u25 rfl (ev_tmp rfl) rfl rfl)) ?_
    refine .cons rfl (stepD_op rfl (opP_move rfl (ev_tmp rfl))) ?_
    refine .cons rfl (stepD_op rfl (opP_index_dat rfl u25 s35 (ev_tmp rfl) (ev_tmp rfl) (fun _ => Int.natCast_nonneg _) (fun _ => blocks_get lc))) ?_
    refine .cons rfl (stepD_op rfl (opP_load_pr rfl u35 rfl (ev_tmp rfl))) ?_
    refine .cons rfl (stepD_op rfl (opP_move rfl (ev_tmp rfl))) ?_
    refine .cons rfl (stepD_op rfl (opP_index_dat rfl u35 s38 (ev_tmp rfl) (ev_tmp rfl) (fun _ => Int.natCast_nonneg _) (fun _ => insts_get lj))) ?_
    refine .cons rfl (stepD_op rfl (opP_load_prn rfl u38 rfl s38 (ev_tmp rfl) rfl)) ?_
    refine .cons rfl (stepD_call (id) rfl (callOf_func rfl (.cons (ev_tmp rfl) (.cons (ev_tmp rfl) .nil))) (c45 f f.blocks[c][j] hf hxf (argsOk_at e6 _ (List.getElem_mem lc) _ (List.getElem_mem lj))) (by repeat' (first | refine Vw.stDOf ?_ | refine Vw.ptOf rfl rfl rfl ?_ | refine Vw.prvOf ?_ | refine Vw.cloOf ?_ | constructor)) rfl rfl rfl (fun _ => rfl) (fun _ => rfl)) ?_
    refine .cons rfl (stepD_op rfl (opP_not rfl (ev_tmp rfl))) ?_
    exact .nil
  · exact .no rfl (.no rfl (.no rfl (.no rfl (.no rfl (.no rfl (.no rfl (.no rfl (.no rfl (.no rfl (.no rfl (.nil)))))))))))
  · rfl
  · rfl
  · rfl
  · rfl
  · exact fun c s h => h
  · exact hvkd _ rfl
  · rfl
  refine ad_done rfl ?_
  refine aw_cond rfl (fun h15 => ?_) (fun h15 => ?_)
  · refine aw_seq ?_
    refine aw_region ?_
    refine al_op rfl rfl rfl (opP_assign rfl (ev_const rfl)) ?_
    refine al_nil ?_
    refine aw_ret ?_
    have e : validateR f = 6 := by simp only [validateR, e1, e2, e3, alp, e5, e6, e7, show typesOk f = false from List.all_eq_false.2 ⟨_, List.getElem_mem lc, by simp only [Bool.not_eq_true]; exact List.all_eq_false.2 ⟨_, List.getElem_mem lj, by simpa using h15⟩⟩, cond_true, cond_false, Bool.not_true, Bool.not_false]
    rw [e]; exact ret_id _ (.tmp rfl .nil) rfl trivial rfl rfl
  refine aw_skip ?_
  refine aw_region ?_
  refine al_op rfl rfl rfl (opP_move rfl (ev_tmp rfl)) ?_
  refine al_op rfl rfl rfl (opP_bin rfl (ev_tmp rfl) (ev_const rfl) rfl) ?_
  refine al_op rfl rfl rfl (opP_assign rfl (ev_tmp rfl)) ?_
  refine al_nil ?_
  refine ⟨j + 1, id, ⟨lj, ?_⟩, by omega, Fit.of ⟨rfl, trivial⟩ ⟨rfl, rfl, by rw [← wrapS (by omega)]; rfl, trivial⟩ rfl rfl⟩
  rw [List.take_succ_eq_append_getElem lj, List.all_append, alj]; simp only [List.all_cons, List.all_nil, show typedR f f.blocks[c][j] = true by simpa using h15]; rfl
end Go.AL
namespace Go.AL
theorem Inv.less {cx : Cx} {rs : List Nat} {E : Env} {objs : Nat → Option O} {w : World} (hi : Inv (cx.at rs) E objs w) : Inv cx E objs w :=
  ⟨hi.obj, hi.dead, hi.disj, hi.own, hi.rd, hi.frame, hi.size, hi.os, hi.tape, hi.output, hi.R0, hi.tk0, hi.bl0, (List.nodup_append.1 (show (rs ++ cx.mk0).Nodup from hi.nd)).2.1,
    fun b hb => hi.mks b (List.mem_append_right _ hb)⟩
def YStep (cx : Cx) (l : Nat) (K L : Nat → Bool) (asx : List A) (S : (Nat → Option O) → Prop) (S' : Bool → (Nat → Option O) → Prop) : Prop :=
  ∀ (rs : List Nat) (E : Env) (w : World) (objs : Nat → Option O) (us : Array Value), Inv (cx.at rs) E objs w → S objs → us.size = asx.length → (∀ (j : Nat) (hj : j < asx.length), Rep E w (us.getD j undef) asx[j]) →
    ∃ fn tmps assign body, (Instr.yield l us).run cx.P w = .ok (.round l fn tmps assign body) w ∧
      RoundIn (fence none) 0 cx.P l fn tmps assign body w fun e w' => ∃ b E' objs', e = .returned (.bool b) ∧ S' b objs' ∧ Inv (cx.at rs) E' objs' w' ∧ ∀ u x, Rep E w u x → x.hit K L = false → Rep E' w' u x
section
variable {cx : Cx} {Q : Exit → State → Prop} {st : State} {ops : Array Oper} {rest : List Oper} {o : Oper}
theorem al_yield {d l : Nat} {asx : List A} {K L : Nat → Bool} {S : (Nat → Option O) → Prop} {S' : Bool → (Nat → Option O) → Prop} {Y : Operand} {xs : Array Operand} {ts : Array TypeId} (hg : o.guard = none)
    (ho : o.op = .call { callee := .value Y, args := xs, argTypes := ts }) (hd : o.dst = some d) (hdN : Nat.blt d cx.N = true) (hY : Ev st true Y (.yld l)) (hx : EvL st true xs.toList asx) (hy : YStep cx l K L asx S S') (hS : S st.objs)
    (h : ∀ b objs', S' b objs' → al cx ops Q rest (State.put ⟨fun t => (st.slots t).kill K L, objs'⟩ d (.v (.bool b)))) : al cx ops Q (o :: rest) st := by
  intro a w hs
  refine wpListIn_plain hg fun KK hK => ?_
  obtain ⟨rs, h0, h1, E, hi, hr⟩ := hs
  obtain ⟨e1, e2⟩ := evl_size (P := cx.P) hx rfl hr
  have hc := hY rfl E w a hr
  generalize hv : a.eval Y = v at hc
  cases hc
  obtain ⟨fn, tmps, assign, body, hrun, hround⟩ := hy rs E w st.objs (xs.map a.eval) hi hS (by simpa using e1) (fun j hj => by
    have := e2 j hj
    simpa [Array.getD_eq_getD_getElem?] using this)
  have hexec : (execOp a.eval o).run cx.P w = .ok (.round l fn tmps assign body) w := by
    simp only [execOp, ho, resolve, hv, Deferred.ofValue, invoke, Sem.run_bind, Sem.run_pure, Result.andThen_ok, Array.empty_append]
    exact hrun
  refine ⟨fun _ _ => trivial, ?_⟩
  have hnd : ∀ c, o.op ≠ .defer c := by intro c hc; rw [ho] at hc; cases hc
  rw [Oper.semAt_eq _ _ _ hnd, hexec]
  refine ⟨fun h => by simp [fence] at h, RoundIn.mono (show RoundIn (fence cx.ro) 0 cx.P l fn tmps assign body w _ from hround) ?_⟩
  rintro e w' ⟨b, E', objs', rfl, hS', hi', hrep⟩
  refine hK _ _ ?_
  rw [hd]
  refine h b objs' hS' _ _ ⟨rs, h0, by simp [Act.put, h1], E', hi', fun t => ?_⟩
  simp only [Act.put, getD_put (by rw [h1]; exact Nat.blt_eq ▸ hdN), State.put]
  by_cases ht : t = d
  · subst ht; simp; exact .v _ _ (.bool b)
  · rw [if_neg ht]
    have : Nat.beq t d = false := by cases hb : Nat.beq t d with | false => rfl | true => exact absurd (Nat.eq_of_beq_eq_true hb) ht
    simp only [this, cond_false]
    rw [A.kill_eq]
    cases hh : (st.slots t).hit K L with
    | true => exact .any _
    | false => exact hrep _ _ (hr t) hh
end
theorem lp_put {cx : Cx} {E : Env} {objs : Nat → Option O} {w : World} {kl l : Nat} {r r' : Loop} {sl : List (Nat × A)} (hi : Inv cx E objs w) (hk : objs kl = some (.lp l r sl)) (ht : r'.tmps = r.tmps) :
    Inv cx E (fun j => bif Nat.beq j kl then some (.lp l r' sl) else objs j) (wput w l (.loop r')) ∧ ∀ u x, Rep E w u x → Rep E (wput w l (.loop r')) u x := by
  have hob := hi.obj _ _ hk
  cases hob with
  | lp _ _ _ hb hf hh hr =>
  have hsame : ∀ b, b ≠ l → (wput w l (.loop r')).heap[b]? = w.heap[b]? := fun b hb => wput_other hb
  have hown := hi.own _ _ hf
  have hreg : ∀ q b, E.reg q b → b ≠ l := by
    intro q b h e
    subst e
    cases q with
    | none =>
      obtain ⟨h1, h2⟩ := hi.rd _ h
      rcases hown.2 with h3 | h3
      · exact h2 h3
      · omega
    | some k =>
      have e := hi.disj _ _ _ h.1 hf
      subst e
      exact h.2 hb.symm
  have hrep : ∀ u x, Rep E w u x → Rep E (wput w l (.loop r')) u x := fun u x h => h.mono fun q b hb => hsame b (hreg q b hb)
  refine ⟨⟨fun k o h => ?_, fun k h b hb => ?_, hi.disj, fun k b h => ?_, hi.rd, fun b hb hn => ?_, ?_, hi.os, hi.tape, hi.output, hi.R0, hi.tk0, hi.bl0, hi.nd, fun b hb => ?_⟩, hrep⟩
  · cases hb2 : Nat.beq k kl with
    | true =>
      simp only [hb2, cond_true, Option.some.injEq] at h
      subst h
      rw [beq_iff.1 hb2]
      exact .lp l r' sl hb hf (wput_same (heap_lt hh)) fun t => by rw [ht]; exact hrep _ _ (hr t)
    | false =>
      simp only [hb2, cond_false] at h
      exact (hi.obj k o h).same (fun b hbk => hsame b fun e => by
        subst e
        have := hi.disj _ _ _ hbk hf
        subst this; rw [beq_iff.2 rfl] at hb2; cases hb2) fun a u => hrep u a
  · cases hb2 : Nat.beq k kl with
    | true => simp [hb2] at h
    | false => simp only [hb2, cond_false] at h; exact hi.dead k h b hb
  · rw [wput_size]; exact hi.own k b h
  · refine (hsame b fun e => ?_).trans (hi.frame b hb hn)
    subst e
    rcases hown.2 with h3 | h3
    · exact hn h3
    · omega
  · rw [wput_size]; exact hi.size
  · obtain ⟨m1, m2, m3, m4⟩ := hi.mks b hb
    exact ⟨m1, m2, by rw [wput_size]; exact m3, (hsame b fun e => by subst e; exact m1 _ hf).trans m4⟩
theorem RO.cells {R : Nat → Prop} {w w' : World} {v : Value} {x : D} (h : RO R w v x) (hw : ∀ b o, w'.cell? ⟨b, o, none⟩ = w.cell? ⟨b, o, none⟩) : RO R w' v x := by
  induction h with
  | int k n => exact .int k n
  | bool b => exact .bool b
  | str s => exact .str s
  | nil a cap es => exact .nil a cap es
  | sl b o cap es xs us hb hcap hes hc hr ih => exact .sl b o cap es xs us hb hcap hes (fun i j hi hj => (hw _ _).trans (hc i j hi hj)) ih
  | agg vs cs hs hr ih => exact .agg vs cs hs ih
  | hole v h => exact .hole v h
theorem Rep.cells {E : Env} {w w' : World} {u : Value} {a : A} (h : Rep E w u a) (hw : ∀ b o, w'.cell? ⟨b, o, none⟩ = w.cell? ⟨b, o, none⟩) : Rep E w' u a := by
  induction h with
  | any v => exact .any v
  | v u x h => exact .v u x (h.cells hw)
  | dat r u x h => exact .dat r u x (h.cells hw)
  | nil a => exact .nil a
  | row k es lo n hr => exact .row k es lo n hr
  | rownil k es a hr => exact .rownil k es a hr
  | pt k o => exact .pt k o
  | pe k es i o hr => exact .pe k es i o hr
  | pr r cs b o us hb hc hr => exact .pr r cs b o us hb (fun j hj => (hw _ _).trans (hc j hj)) fun j hj => (hr j hj).cells hw
  | prv cs b o us hb hc hr ih => exact .prv cs b o us hb (fun j hj => (hw _ _).trans (hc j hj)) ih
  | clo f caps vs hs hr ih => exact .clo f caps vs hs ih
  | nilf => exact .nilf
  | nilp => exact .nilp
  | yld l => exact .yld l
  | st cs vs hs hr ih => exact .st cs vs hs ih
  | tup cs vs hs hr ih => exact .tup cs vs hs ih
  | when g a u h1 h2 ih => exact .when g a u ih h2
  | tok i j => exact .tok i j
theorem cell_lp {w : World} {l : Nat} {r r' : Loop} (h : w.heap[l]? = some (.loop r)) (b o : Nat) : (wput w l (.loop r')).cell? ⟨b, o, none⟩ = w.cell? ⟨b, o, none⟩ := by
  by_cases e : b = l
  · subst e
    simp [World.cell?, h, wput_same (heap_lt h)]
  · exact cell_same (wput_other e) o
def roundCx (P : Program) (E : Env) (w : World) (ob : List (Nat × O)) (n0 l : Nat) : Cx := { calleeCx P E w ob id with N := n0, ro := some l }
theorem round_begins {P : Program} {E : Env} {w w' : World} {ob : List (Nat × O)} {n0 l : Nat} {r r' : Loop} {s : State} {a : Act} (hl : ∀ i, keyIn ob i = true → ¬ E.fp i l) (hh : w.heap[l]? = some (.loop r)) (hs : Sim (roundCx P E w ob n0 l) s a w') :
    w'.heap[l]? = some (.loop r) ∧ Sim (roundCx P E (wput w l (.loop r')) ob n0 l) s a (wput w' l (.loop r')) := by
  obtain ⟨rs, h0, h1, E', hi, hr⟩ := hs
  have hlt := heap_lt hh
  have hnb : ¬ ∃ i, keyIn ob i = true ∧ E.fp (id i) l := fun ⟨i, h1, h2⟩ => hl i h1 h2
  have hh' : w'.heap[l]? = some (.loop r) := (hi.frame l hlt hnb).trans hh
  have hc : ∀ b o, (wput w' l (.loop r')).cell? ⟨b, o, none⟩ = w'.cell? ⟨b, o, none⟩ := cell_lp hh'
  have hfpl : ∀ k b, E'.fp k b → b ≠ l := fun k b hb e => by
    subst e
    rcases (hi.own k b hb).2 with h | h
    · exact hnb h
    · have h' : w.heap.size ≤ b := h
      omega
  have hrep : ∀ a u, Rep E' w' u a → Rep E' (wput w' l (.loop r')) u a := fun a u h => h.cells hc
  have hcw : ∀ b o, (wput w l (.loop r')).cell? ⟨b, o, none⟩ = w.cell? ⟨b, o, none⟩ := cell_lp hh
  have hsz : (wput w l (.loop r')).heap.size = w.heap.size := wput_size
  refine ⟨hh', rs, h0, h1, E', ⟨fun k o h => (hi.obj k o h).same (fun b hb => wput_other (hfpl k b hb)) hrep, hi.dead, hi.disj, fun k b h => ?_, fun b h => ?_, fun b hb hn => ?_, ?_, hi.os, hi.tape, hi.output, ?_, ?_, hi.bl0, hi.nd, fun b hb => ?_⟩, fun t => hrep _ _ (hr t)⟩
  · rw [wput_size]
    obtain ⟨h2, h3⟩ := hi.own k b h
    refine ⟨h2, h3.imp id fun h => ?_⟩
    show (wput w l (.loop r')).heap.size ≤ b
    rw [hsz]; exact h
  · obtain ⟨h2, h3⟩ := hi.rd b h
    refine ⟨?_, h3⟩
    show b < (wput w l (.loop r')).heap.size
    rw [hsz]; exact h2
  · have hb' : b < w.heap.size := by
      have : b < (wput w l (.loop r')).heap.size := hb
      rwa [hsz] at this
    show _ = (wput w l (.loop r')).heap[b]?
    by_cases e : b = l
    · subst e; rw [wput_same (heap_lt hh'), wput_same hlt]
    · rw [wput_other e, wput_other e]; exact hi.frame b hb' hn
  · rw [wput_size]
    show (wput w l (.loop r')).heap.size ≤ _
    rw [hsz]; exact hi.size
  · rw [hi.R0]
    funext b
    show (b < w.heap.size ∧ _) = (b < (wput w l (.loop r')).heap.size ∧ _)
    rw [hsz]
  · rw [hi.tk0]
    funext i j
    show (w.cell? ⟨E.bl (id i), j, none⟩).getD undef = ((wput w l (.loop r')).cell? ⟨E.bl (id i), j, none⟩).getD undef
    rw [hcw]
  · obtain ⟨m1, m2, m3, m4⟩ := hi.mks b hb
    have m2' : w.heap.size ≤ b := m2
    refine ⟨m1, ?_, by rw [wput_size]; exact m3, (wput_other (by omega)).trans m4⟩
    show (wput w l (.loop r')).heap.size ≤ b
    rw [hsz]; exact m2
mutual
def A.plain (K : Nat → Bool) : A → Bool
  | .any | .v _ | .nil | .nilf | .nilp | .yld _ => true
  | .row k _ _ _ | .pt k _ => K k
  | .clo _ cs | .st cs | .tup cs => plainL K cs
  | _ => false
def plainL (K : Nat → Bool) : List A → Bool
  | [] => true
  | a :: l => a.plain K && plainL K l
end
def O.plain (K : Nat → Bool) : O → Bool
  | .var cs => plainL K cs
  | .row _ _ => true
  | .lp .. => false
theorem plainL_get {K : Nat → Bool} : ∀ {l : List A}, plainL K l = true → ∀ (j : Nat) (hj : j < l.length), l[j].plain K = true
  | [], _, j, hj => absurd hj (Nat.not_lt_zero _)
  | a :: l, h, j, hj => by
    simp only [plainL, Bool.and_eq_true] at h
    cases j with
    | zero => exact h.1
    | succ j => exact plainL_get h.2 j (by simpa using hj)
mutual
theorem plain_vw {objs : Nat → Option O} {pre : List (Nat × O)} : ∀ a : A, a.plain (keyIn pre) = true → Vw objs pre id a a
  | .any, _ => .any _
  | .v x, _ => .v x
  | .nil, _ => .nil
  | .nilf, _ => .nilf
  | .nilp, _ => .nilp
  | .yld l, _ => .yld l
  | .row k es lo n, h => .rowL (ρ := id) k es lo n h
  | .pt k o, h => .ptL (ρ := id) k o h
  | .clo f cs, h => .clo f cs cs rfl fun j h1 h2 => plainL_vw cs h j h1
  | .st cs, h => .st cs cs rfl fun j h1 h2 => plainL_vw cs h j h1
  | .tup cs, h => .tup cs cs rfl fun j h1 h2 => plainL_vw cs h j h1
  | .dat _ _, h | .pe .., h | .pr _ _, h | .prv _, h | .when _ _, h | .tok _ _, h => by simp [A.plain] at h
theorem plainL_vw {objs : Nat → Option O} {pre : List (Nat × O)} : ∀ l : List A, plainL (keyIn pre) l = true → ∀ (j : Nat) (hj : j < l.length), Vw objs pre id l[j] l[j]
  | [], _, j, hj => absurd hj (Nat.not_lt_zero _)
  | a :: l, h, 0, _ => by simp only [plainL, Bool.and_eq_true] at h; exact plain_vw a h.1
  | a :: l, h, j + 1, hj => by simp only [plainL, Bool.and_eq_true] at h; exact plainL_vw l h.2 j (by simpa using hj)
end
mutual
theorem plain_imp {K : Nat → Bool} {T : Nat → Nat → A} : ∀ a : A, a.plain K = true → a.imp id T = a
  | .any, _ | .v _, _ | .nil, _ | .nilf, _ | .nilp, _ | .yld _, _ | .row .., _ | .pt .., _ => rfl
  | .clo f cs, h => by simp only [A.imp, plainL_imp cs h]
  | .st cs, h => by simp only [A.imp, plainL_imp cs h]
  | .tup cs, h => by simp only [A.imp, plainL_imp cs h]
  | .dat _ _, h | .pe .., h | .pr _ _, h | .prv _, h | .when _ _, h | .tok _ _, h => by simp [A.plain] at h
theorem plainL_imp {K : Nat → Bool} {T : Nat → Nat → A} : ∀ l : List A, plainL K l = true → impL id T l = l
  | [], _ => rfl
  | a :: l, h => by simp only [plainL, Bool.and_eq_true] at h; simp only [impL, plain_imp a h.1, plainL_imp l h.2]
end
mutual
theorem plain_nohit {K K' : Nat → Bool} (h : ∀ k, K k = true → K' k = false) : ∀ a : A, a.plain K = true → a.hit K' noK = false
  | .any, _ | .v _, _ | .nil, _ | .nilf, _ | .nilp, _ | .yld _, _ => rfl
  | .row k _ _ _, hk => by simp only [A.hit, noK, Bool.or_false]; exact h k hk
  | .pt k _, hk => h k hk
  | .clo f cs, hk => plainL_nohit h cs hk
  | .st cs, hk => plainL_nohit h cs hk
  | .tup cs, hk => plainL_nohit h cs hk
  | .dat _ _, h | .pe .., h | .pr _ _, h | .prv _, h | .when _ _, h | .tok _ _, h => by simp [A.plain] at h
theorem plainL_nohit {K K' : Nat → Bool} (h : ∀ k, K k = true → K' k = false) : ∀ l : List A, plainL K l = true → hitL K' noK l = false
  | [], _ => rfl
  | a :: l, hk => by
    simp only [plainL, Bool.and_eq_true] at hk
    simp only [hitL, plain_nohit h a hk.1, plainL_nohit h l hk.2, Bool.or_self]
end
theorem oplain_imp {K : Nat → Bool} {T : Nat → Nat → A} {o : O} (h : o.plain K = true) : o.imp id T = o := by
  cases o with
  | var cs => simp only [O.imp, plainL_imp cs h]
  | row => rfl
  | lp => simp [O.plain] at h
mutual
theorem plain_within {K : Nat → Bool} : ∀ a : A, a.plain K = true → a.within K = true
  | .any, _ | .v _, _ | .nil, _ | .nilf, _ | .nilp, _ | .yld _, _ => rfl
  | .row .., h | .pt .., h => h
  | .clo f cs, h => plainL_within cs h
  | .st cs, h => plainL_within cs h
  | .tup cs, h => plainL_within cs h
  | .dat _ _, h | .pe .., h | .pr _ _, h | .prv _, h | .when _ _, h | .tok _ _, h => by simp [A.plain] at h
theorem plainL_within {K : Nat → Bool} : ∀ l : List A, plainL K l = true → withinL K l = true
  | [], _ => rfl
  | a :: l, h => by simp only [plainL, Bool.and_eq_true] at h; simp only [withinL, plain_within a h.1, plainL_within l h.2, Bool.and_self]
end
def lentOk (vs rk : List Nat) (ob : List (Nat × O)) : Bool :=
  (ob.all fun p => p.2.plain (keyIn ob) && (match p.2 with | .var _ => inL vs p.1 | .row _ _ => inL rk p.1 | .lp .. => false)) && vs.all (keyIn ob) && rk.all (keyIn ob)
theorem keyIn_iff {ob : List (Nat × O)} {k : Nat} : keyIn ob k = true ↔ ∃ o, objL ob k = some o := by
  unfold keyIn
  exact Option.isSome_iff_exists
theorem keyIn_mem' {l : List (Nat × O)} {q : Nat × O} (hq : q ∈ l) : keyIn l q.1 = true := by
  induction l with
  | nil => cases hq
  | cons b l ih =>
    simp only [keyIn, objL]
    cases hb : Nat.beq q.1 b.1 with
    | true => simp
    | false =>
      rcases List.mem_cons.1 hq with rfl | hq
      · rw [beq_iff.2 rfl] at hb; cases hb
      · exact ih hq
theorem lentOk_keys {vs rk : List Nat} {ob : List (Nat × O)} (h : lentOk vs rk ob = true) (k : Nat) : keyIn ob k = inL (vs ++ rk) k := by
  simp only [lentOk, Bool.and_eq_true, List.all_eq_true] at h
  obtain ⟨⟨h1, h2⟩, h3⟩ := h
  cases hk : keyIn ob k with
  | true =>
    obtain ⟨o, ho⟩ := keyIn_iff.1 hk
    have := (h1 _ (objL_some ho)).2
    symm
    rw [inL_iff, List.mem_append]
    cases o with
    | var cs => exact .inl (inL_iff.1 this)
    | row es xs => exact .inr (inL_iff.1 this)
    | lp => cases this
  | false =>
    symm
    cases hc : inL (vs ++ rk) k with
    | false => rfl
    | true =>
      rcases List.mem_append.1 (inL_iff.1 hc) with h | h
      · rw [h2 k h] at hk; cases hk
      · rw [h3 k h] at hk; cases hk
theorem lentOk_kill {vs rk : List Nat} {pre post : List (Nat × O)} (h : lentOk vs rk pre = true) (h' : lentOk vs rk post = true) (k : Nat) (hk : killK pre post id k = true) : inL rk k = true := by
  have hs : ∀ k, keyIn pre k = keyIn post k := fun k => (lentOk_keys h k).trans (lentOk_keys h' k).symm
  simp only [killK, Bool.or_eq_true, List.any_eq_true, Bool.and_eq_true] at hk
  rcases hk with ⟨p, hp, hb, hv⟩ | ⟨p, hp, hb, hv⟩
  · have e := beq_iff.1 hb
    simp only [id] at e
    subst e
    rcases hv with hv | hv
    · simp only [lentOk, Bool.and_eq_true, List.all_eq_true] at h
      have := (h.1.1 p hp).2
      cases hpo : p.2 with
      | var cs => rw [hpo] at hv; simp [isVar] at hv
      | row es xs => rw [hpo] at this; exact this
      | lp => rw [hpo] at this; cases this
    · rw [← hs, keyIn_mem' hp] at hv; cases hv
  · rw [hs, keyIn_mem' hp] at hv; cases hv
theorem lentOk_lent {vs rk : List Nat} {pre : List (Nat × O)} (h : lentOk vs rk pre = true) (k : Nat) (hk : lentK pre id k = true) : inL (vs ++ rk) k = true := by
  simp only [lentK, List.any_eq_true] at hk
  obtain ⟨p, hp, hb⟩ := hk
  have e := beq_iff.1 hb
  simp only [id] at e
  subst e
  rw [← lentOk_keys h]; exact keyIn_mem' hp
mutual
theorem hit_le {K L K' L' : Nat → Bool} (hK : ∀ k, K' k = true → K k = true) (hL : ∀ k, L' k = true → L k = true) : ∀ x : A, x.hit K L = false → x.hit K' L' = false
  | .any, _ | .v _, _ | .nil, _ | .nilf, _ | .nilp, _ | .yld _, _ | .tok _ _, _ | .dat none _, _ | .pr none _, _ => rfl
  | .dat (some k) _, hh | .pr (some k) _, hh | .row k _ _ _, hh | .pe k _ _ _, hh => by
    simp only [A.hit, Bool.or_eq_false_iff] at hh ⊢
    exact ⟨by cases hk : K' k with | false => rfl | true => rw [hK k hk] at hh; exact hh.1, by cases hk : L' k with | false => rfl | true => rw [hL k hk] at hh; exact hh.2⟩
  | .pt k _, hh => by
    simp only [A.hit] at hh ⊢
    cases hk : K' k with | false => rfl | true => rw [hK k hk] at hh; exact hh
  | .prv cs, hh | .clo _ cs, hh | .st cs, hh | .tup cs, hh => hitL_le hK hL cs hh
  | .when _ a, hh => hit_le hK hL a hh
theorem hitL_le {K L K' L' : Nat → Bool} (hK : ∀ k, K' k = true → K k = true) (hL : ∀ k, L' k = true → L k = true) : ∀ l : List A, hitL K L l = false → hitL K' L' l = false
  | [], _ => rfl
  | a :: l, hh => by
    simp only [hitL, Bool.or_eq_false_iff] at hh ⊢
    exact ⟨hit_le hK hL a hh.1, hitL_le hK hL l hh.2⟩
end
def O.calm (K L : Nat → Bool) : O → Bool
  | .var cs => !(hitL K L cs)
  | .row _ _ => true
  | .lp _ _ sl => !(hitL K L (sl.map (·.2)))
theorem ocalm_kill {K L K' L' : Nat → Bool} (hK : ∀ k, K' k = true → K k = true) (hL : ∀ k, L' k = true → L k = true) {o : O} (h : o.calm K L = true) : o.kill K' L' = o := by
  cases o with
  | row => rfl
  | var cs =>
    simp only [O.calm, Bool.not_eq_true'] at h
    simp only [O.kill]
    congr 1
    conv => rhs; rw [← List.map_id cs]
    refine List.map_congr_left fun a ha => ?_
    obtain ⟨j, hj, rfl⟩ := List.getElem_of_mem ha
    rw [A.kill_eq, hit_le hK hL _ (hitL_get h j hj)]; rfl
  | lp l r sl =>
    simp only [O.calm, Bool.not_eq_true'] at h
    simp only [O.kill]
    congr 1
    conv => rhs; rw [← List.map_id sl]
    refine List.map_congr_left fun p hp => ?_
    obtain ⟨j, hj, rfl⟩ := List.getElem_of_mem hp
    have := hitL_get h j (by simpa using hj)
    simp only [List.getElem_map] at this
    rw [A.kill_eq, hit_le hK hL _ this]; rfl
inductive VwS (objs : Nat → Option O) (pre : List (Nat × O)) : List (Nat × A) → List (Nat × A) → Prop
  | nil : VwS objs pre [] []
  | cons {t : Nat} {a a' : A} {l l' : List (Nat × A)} (h : Vw objs pre id a a') (r : VwS objs pre l l') : VwS objs pre ((t, a) :: l) ((t, a') :: l')
theorem VwS.at {objs : Nat → Option O} {pre : List (Nat × O)} {l l' : List (Nat × A)} (h : VwS objs pre l l') (t : Nat) : Vw objs pre id (slotL l t) (slotL l' t) := by
  induction h with
  | nil => exact .any _
  | @cons t' a a' l l' h r ih =>
    simp only [slotL]
    cases Nat.beq t t' with
    | true => exact h
    | false => exact ih
theorem VwS.mono {objs objs' : Nat → Option O} {pre : List (Nat × O)} (ho : ∀ k o, objs k = some o → objs' k = some o) {l l' : List (Nat × A)} (h : VwS objs pre l l') : VwS objs' pre l l' := by
  induction h with
  | nil => exact .nil
  | cons h r ih => exact .cons (h.mono ho) ih
def Has (objs : Nat → Option O) (ob : List (Nat × O)) : Prop := ∀ i o, objL ob i = some o → objs i = some o
theorem objL_append (a b : List (Nat × O)) (k : Nat) : objL (a ++ b) k = match objL a k with | some o => some o | none => objL b k := by
  induction a with
  | nil => rfl
  | cons p l ih =>
    simp only [List.cons_append, objL]
    cases Nat.beq k p.1 with
    | true => rfl
    | false => exact ih
theorem Has.append {objs : Nat → Option O} {a b : List (Nat × O)} (h : Has objs a) (h' : Has objs b) : Has objs (a ++ b) := by
  intro i o ho
  rw [objL_append] at ho
  cases ha : objL a i with
  | some o' => rw [ha] at ho; exact h i o (ha.trans ho)
  | none => rw [ha] at ho; exact h' i o ho
theorem setL_out {objs : Nat → Option O} {T : Nat → Nat → A} {l : List (Nat × O)} {k : Nat} (h : keyIn l k = false) : setL objs id T l k = objs k := by
  induction l with
  | nil => rfl
  | cons p l ih =>
    obtain ⟨i, o⟩ := p
    simp only [keyIn, objL] at h
    cases hb : Nat.beq k i with
    | true => rw [hb] at h; simp at h
    | false =>
      rw [hb, cond_false] at h
      simp only [setL, id, hb, cond_false]
      exact ih h
theorem setL_in {objs : Nat → Option O} {T : Nat → Nat → A} {l : List (Nat × O)} {k : Nat} {o : O} (h : objL l k = some o) : setL objs id T l k = some (o.imp id T) := by
  induction l with
  | nil => cases h
  | cons p l ih =>
    obtain ⟨i, o'⟩ := p
    simp only [objL] at h
    cases hb : Nat.beq k i with
    | true => rw [hb, cond_true, Option.some.injEq] at h; subst h; simp only [setL, id, hb, cond_true]
    | false =>
      rw [hb, cond_false] at h
      simp only [setL, id, hb, cond_false]
      exact ih h
def RoundE (N : List (Nat × O) → Prop) (J : Code → List (Nat × O) → Prop) : Exit → List (Nat × O) → Prop
  | .normal, po => N po
  | .ret, po => J .ret po
  | .exit id, po => J (.exit id) po
  | _, _ => False
theorem ystep_of {cx : Cx} {l kl p n0 : Nat} {r : Loop} {sl slv : List (Nat × A)} {keep : List (Nat × O)} {vs rk : List Nat} {item item' : A} (SN : List (Nat × O) → Prop) (N : List (Nat × O) → Prop) (J : Code → List (Nat × O) → Prop)
    (hps : r.params = #[p]) (hp : Nat.blt p n0 = true) (hsz : r.tmps.size = n0) (hkl : inL (vs ++ rk) kl = false)
    (hkeep : (keep.all fun q => q.2.calm (inL rk) (inL (vs ++ rk)) && !(inL (vs ++ rk) q.1) && !(Nat.beq q.1 kl)) = true) (hsl : hitL (inL rk) (inL (vs ++ rk)) (sl.map (·.2)) = false) (hrk : ∀ k, inL rk k = true → cx.vk k = false)
    (hl : ∀ ob, SN ob → lentOk vs rk ob = true) (hlN : ∀ ob, N ob → lentOk vs rk ob = true) (hlJ : ∀ c ob, J c ob → lentOk vs rk ob = true)
    (hitem : ∀ ob objs, SN ob → Vw objs ob id item item') (hvw : ∀ ob, SN ob → VwS (objL (keep ++ ob)) ob sl slv)
    (hbody : ∀ ob, SN ob → ∀ cxr : Cx, cxr.P = cx.P → cxr.ro = some l → cxr.N = n0 → (∀ k, cxr.vk k = isVar (objL ob k)) →
      aw cxr r.assign (fun e s => e = .normal ∧ ∀ cxr' : Cx, cxr'.P = cx.P → cxr'.ro = some l → cxr'.N = n0 → (∀ k, cxr'.vk k = isVar (objL ob k)) →
        aw cxr' r.body (fun e s' => ∃ po ρ, RoundE N J e po ∧ Fits cxr' s' ρ po) s) (mk ((p, item') :: slv) ob)) :
    YStep cx l (inL rk) (inL (vs ++ rk)) [item]
      (fun objs => ∃ ob, SN ob ∧ objs kl = some (.lp l { r with state := .ready, pending := none } sl) ∧ Has objs ob ∧ Has objs keep)
      (fun b objs => bif b then ∃ ob, N ob ∧ objs kl = some (.lp l { r with state := .ready, pending := none } sl) ∧ Has objs ob ∧ Has objs keep
        else ∃ c ob, J c ob ∧ objs kl = some (.lp l { r with state := .done, pending := some c } sl) ∧ Has objs ob ∧ Has objs keep) := by
  intro rs E w objs us hi ⟨ob, hSN, hk, hob, hkp⟩ hus hrep
  have hlo := hl ob hSN
  have hlp := hi.obj _ _ hk
  cases hlp with
  | lp _ _ _ hbl hfp hh hrt =>
  refine ⟨_, _, _, _, run_yields hh (by show us.size = r.params.size; rw [hps]; simpa using hus), ?_⟩
  -- the round begins
  let r1 : Loop := { r with state := .busy, pending := none }
  obtain ⟨hi1, hrep1⟩ := lp_put (r' := r1) hi hk rfl
  let w1 := wput w l (.loop r1)
  let objs1 : Nat → Option O := fun j => bif Nat.beq j kl then some (.lp l r1 sl) else objs j
  have hob1 : Has objs1 ob := fun i o ho => by
    have : Nat.beq i kl = false := by
      cases hb : Nat.beq i kl with
      | false => rfl
      | true =>
        have e := beq_iff.1 hb; subst e
        rw [← lentOk_keys hlo, keyIn_of ho] at hkl; cases hkl
    simp only [objs1, this, cond_false]; exact hob i o ho
  have hkeep' : ∀ q ∈ keep, q.2.calm (inL rk) (inL (vs ++ rk)) = true ∧ inL (vs ++ rk) q.1 = false ∧ Nat.beq q.1 kl = false := fun q hq => by
    have := List.all_eq_true.1 hkeep q hq
    simp only [Bool.and_eq_true, Bool.not_eq_true'] at this
    exact ⟨this.1.1, this.1.2, this.2⟩
  have hkp1 : Has objs1 keep := fun i o ho => by
    have := (hkeep' _ (objL_some ho)).2.2
    simp only at this
    simp only [objs1, this, cond_false]; exact hkp i o ho
  have hfull : ∀ k o, objL (keep ++ ob) k = some o → objs1 k = some o := Has.append hkp1 hob1
  have hpl : ∀ i o, objL ob i = some o → o.plain (keyIn ob) = true := fun i o ho => by
    simp only [lentOk, Bool.and_eq_true, List.all_eq_true] at hlo
    exact (hlo.1.1 _ (objL_some ho)).1
  have hlend : ∀ i o, objL ob i = some o → Lend objs1 ob id i o := fun i o ho => by
    have h1 := hob1 i o ho
    cases o with
    | var cs => exact .var cs cs h1 rfl fun j h2 _ => .inr (plainL_vw cs (hpl i _ ho) j h2)
    | row es xs => exact .row es xs h1
    | lp => have := hpl i _ ho; simp [O.plain] at this
  have hsome : ∀ i, keyIn ob i = true → (objs1 (id i)).isSome = true := fun i h => by
    obtain ⟨o, ho⟩ := keyIn_iff.1 h
    simp [hob1 i o ho]
  have hob0 : Has objs ob := hob
  have hlend0 : ∀ i o, objL ob i = some o → Lend objs ob id i o := fun i o ho => by
    have h1 := hob i o ho
    cases o with
    | var cs => exact .var cs cs h1 rfl fun j h2 _ => .inr (plainL_vw cs (hpl i _ ho) j h2)
    | row es xs => exact .row es xs h1
    | lp => have := hpl i _ ho; simp [O.plain] at this
  have hsome0 : ∀ i, keyIn ob i = true → (objs (id i)).isSome = true := fun i h => by
    obtain ⟨o, ho⟩ := keyIn_iff.1 h
    simp [hob i o ho]
  have hfull0 : ∀ k o, objL (keep ++ ob) k = some o → objs k = some o := Has.append hkp hob
  have hinv := callee_inv (pre := ob) (ρ := id) hi hlend0 (fun _ _ _ _ e => e)
  have hinv' : Inv (roundCx cx.P E w ob n0 l) (calleeE E w ob id) (objL ob) w := ⟨hinv.obj, hinv.dead, hinv.disj, hinv.own, hinv.rd, hinv.frame, hinv.size, hinv.os, hinv.tape, hinv.output, hinv.R0, hinv.tk0, hinv.bl0, hinv.nd, hinv.mks⟩
  have hnl : ∀ i, keyIn ob i = true → ¬ E.fp i l := fun i h1 h2 => by
    have e := hi.disj _ _ _ h2 hfp
    subst e
    rw [lentOk_keys hlo, hkl] at h1; cases h1
  have hus1 : us.size = 1 := by simpa using hus
  have hzip : ((r.params.zip us).foldl (fun tmps (t, a) => tmps.setIfInBounds t a) r.tmps) = r.tmps.setIfInBounds p (us.getD 0 undef) := by
    obtain ⟨us⟩ := us
    match us, hus1 with
    | [u], _ => rw [hps]; simp
  have hp' : p < r.tmps.size := by rw [hsz]; exact Nat.blt_eq ▸ hp
  refine roundIn_of_wpIn trivial ?_
  have hsim : Sim (roundCx cx.P E w ob n0 l) (mk ((p, item') :: slv) ob) { tmps := (r.params.zip us).foldl (fun tmps (t, a) => tmps.setIfInBounds t a) r.tmps, defers := [] } w := by
    refine ⟨[], rfl, by rw [hzip]; simpa [roundCx] using hsz, calleeE E w ob id, hinv', fun t => ?_⟩
    rw [hzip]
    simp only [getD_put hp']
    show Rep _ w _ (slotL ((p, item') :: slv) t)
    simp only [slotL]
    by_cases ht : t = p
    · subst ht
      rw [if_pos rfl, beq_iff.2 rfl, cond_true]
      exact Rep.view hi hsome0 (hitem ob objs hSN) _ (hrep 0 (by simp))
    · rw [if_neg ht]
      have : Nat.beq t p = false := by cases hb : Nat.beq t p with | false => rfl | true => exact absurd (Nat.eq_of_beq_eq_true hb) ht
      rw [this, cond_false]
      exact Rep.view hi hsome0 (((hvw ob hSN).mono hfull0).at t) _ (hrt t)
  have hw0 := hbody ob hSN (roundCx cx.P E w ob n0 l) rfl rfl rfl (fun _ => rfl) _ _ hsim
  -- and ends
  have fin : ∀ (jump : Option Code) (R : List (Nat × O) → Prop) (a' : Act) (w' : World) (s' : State) (po : List (Nat × O)) (ρ : Nat → Nat), Sim (roundCx cx.P E w1 ob n0 l) s' a' w' → Fits (roundCx cx.P E w1 ob n0 l) s' ρ po → lentOk vs rk po = true → R po →
      ∃ v w'', (Instr.endRound l jump).run cx.P w' = .ok v w'' ∧ ∃ E' objs', v = .bool jump.isNone ∧ (∃ ob', R ob' ∧ objs' kl = some (.lp l { r with state := if jump.isNone then .ready else .done, pending := jump } sl) ∧ Has objs' ob' ∧ Has objs' keep) ∧
        Inv (cx.at rs) E' objs' w'' ∧ ∀ u x, Rep E w u x → x.hit (inL rk) (inL (vs ++ rk)) = false → Rep E' w'' u x := by
    intro jump R a' w' s' po ρ hs' hf hlp' hR
    obtain ⟨rs', _, _, E2, hi2, _⟩ := hs'
    obtain ⟨E3, hi3, _⟩ := (hi2.less).fit hf
    have hi3' : Inv (calleeCx (cx.at rs).P E w1 ob id) E3 (objL po) w' := ⟨hi3.obj, hi3.dead, hi3.disj, hi3.own, hi3.rd, hi3.frame, hi3.size, hi3.os, hi3.tape, hi3.output, hi3.R0, hi3.tk0, hi3.bl0, hi3.nd, hi3.mks⟩
    have hplp : ∀ q ∈ po, q.2.plain (keyIn po) = true := fun q hq => by
      simp only [lentOk, Bool.and_eq_true, List.all_eq_true] at hlp'
      exact (hlp'.1.1 q hq).1
    obtain ⟨E4, hi4, hrep4, _⟩ := after_env (cx := cx.at rs) (st := ⟨fun _ => .any, objs1⟩) (pre := ob) (post := po) (ρ := id) (res := .any) (v := undef) hi1 hlend (injOn_id _)
      (List.all_eq_true.2 fun q hq => by
        have := hplp q hq
        cases hq2 : q.2 with
        | var cs => rw [hq2] at this; exact plainL_within cs this
        | row => rfl
        | lp => rw [hq2] at this; simp [O.plain] at this) rfl
      (fun q hq => by
        have hpre : keyIn ob q.1 = true := by rw [lentOk_keys hlo, ← lentOk_keys hlp']; exact keyIn_mem' hq
        obtain ⟨o, ho⟩ := keyIn_iff.1 hpre
        cases o with
        | var cs => exact .inl (by rw [hpre, ho]; rfl)
        | row es xs =>
          refine .inr (hrk _ ?_)
          simp only [lentOk, Bool.and_eq_true, List.all_eq_true] at hlo
          exact (hlo.1.1 _ (objL_some ho)).2
        | lp => have := hpl _ _ ho; simp [O.plain] at this) hi3' (.any _)
    have hkK := lentOk_kill hlo hlp'
    have hlK := lentOk_lent hlo
    let T : Nat → Nat → A := fun i j => (tokA objs1 id i j).kill (killK ob po id) (lentK ob id)
    let objs4 : Nat → Option O := setL (State.kill ⟨fun _ => .any, objs1⟩ (killK ob po id) (lentK ob id)).objs id T po
    have hi4 : Inv (cx.at rs) E4 objs4 w' := hi4
    have hcalm : ∀ k o, objs1 k = some o → inL (vs ++ rk) k = false → o.calm (inL rk) (inL (vs ++ rk)) = true → objs4 k = some o := by
      intro k o ho hk hc
      have h1 : keyIn po k = false := by rw [lentOk_keys hlp']; exact hk
      have h2 : killK ob po id k = false := by
        cases h : killK ob po id k with
        | false => rfl
        | true =>
          have := hkK k h
          rw [inL_iff] at this
          rw [inL_iff.2 (List.mem_append_right _ this)] at hk; cases hk
      show setL _ id T po k = _
      rw [setL_out h1]
      simp only [State.kill, h2, cond_false, ho, Option.map_some]
      rw [ocalm_kill hkK hlK hc]
    have h4k : objs4 kl = some (.lp l r1 sl) := hcalm kl _ (by simp only [objs1, beq_iff.2 (rfl : kl = kl), cond_true]) hkl (by simp only [O.calm, hsl]; rfl)
    have h4ob : Has objs4 po := fun i o ho => by
      show setL _ id T po i = _
      rw [setL_in ho, oplain_imp (hplp _ (objL_some ho))]
    have h4kp : Has objs4 keep := fun i o ho => by
      have := hkeep' _ (objL_some ho)
      exact hcalm i o (hkp1 i o ho) this.2.1 this.1
    have hlp4 := hi4.obj _ _ h4k
    cases hlp4 with
    | lp _ _ _ hbl4 hfp4 hh4 hrt4 =>
    obtain ⟨hi5, hrep5⟩ := lp_put (r' := { r with state := if jump.isNone then .ready else .done, pending := jump }) hi4 h4k rfl
    have other : ∀ i, keyIn po i = true ∨ keyIn keep i = true → Nat.beq i kl = false := fun i h => by
      rcases h with h | h
      · cases hb : Nat.beq i kl with
        | false => rfl
        | true =>
          have e := beq_iff.1 hb; subst e
          rw [lentOk_keys hlp'] at h; rw [h] at hkl; cases hkl
      · obtain ⟨o, ho⟩ := keyIn_iff.1 h
        exact (hkeep' _ (objL_some ho)).2.2
    refine ⟨_, _, run_ends jump hh4, E4, _, rfl, ⟨po, hR, by simp, fun i o ho => ?_, fun i o ho => ?_⟩, hi5, fun u x hx hh => ?_⟩
    · rw [other i (.inl (keyIn_of ho)), cond_false]; exact h4ob i o ho
    · rw [other i (.inr (keyIn_of ho)), cond_false]; exact h4kp i o ho
    · have h6 := hrep4 u x (hrep1 u x hx)
      rw [A.kill_eq, hit_le hkK hlK x hh] at h6
      exact hrep5 u x h6
  refine wpIn_mono hw0 ?_
  rintro e a1 w2 ⟨s1, ⟨rfl, hbod⟩, hs1⟩
  obtain ⟨hh2, hs2⟩ := round_begins (r' := r1) hnl hh hs1
  refine ⟨_, run_begins hh2 rfl, ?_⟩
  have hw := hbod (roundCx cx.P E w1 ob n0 l) rfl rfl rfl (fun _ => rfl) _ _ hs2
  refine wpIn_mono hw ?_
  rintro e a' w' ⟨s', ⟨po, ρ, hE, hf⟩, hs'⟩
  cases e with
  | normal =>
    obtain ⟨v, w'', h1, E', objs', rfl, h2, h3, h4⟩ := fin none N a' w' s' po ρ hs' hf (hlN po hE) hE
    exact ⟨_, w'', h1, true, E', objs', rfl, h2, h3, h4⟩
  | ret =>
    obtain ⟨v, w'', h1, E', objs', rfl, ⟨ob', h2, h5⟩, h3, h4⟩ := fin (some .ret) (J .ret) a' w' s' po ρ hs' hf (hlJ _ po hE) hE
    exact ⟨_, w'', h1, false, E', objs', rfl, ⟨_, ob', h2, h5⟩, h3, h4⟩
  | exit id =>
    obtain ⟨v, w'', h1, E', objs', rfl, ⟨ob', h2, h5⟩, h3, h4⟩ := fin (some (.exit id)) (J (.exit id)) a' w' s' po ρ hs' hf (hlJ _ po hE) hE
    exact ⟨_, w'', h1, false, E', objs', rfl, ⟨_, ob', h2, h5⟩, h3, h4⟩
  | goto t => exact hE.elim
  | panic c => exact hE.elim
  | outgrown => exact hE.elim
end Go.AL
namespace Go.AL
def newO (objs : Nat → Option O) (k : Nat) (o : O) : Nat → Option O := fun j => bif Nat.beq j k then some o else bif inL [] j then none else (objs j).map (O.kill (inL [k]) noK)
def setO (objs : Nat → Option O) (k : Nat) (o : O) : Nat → Option O := fun j => bif Nat.beq j k then some o else objs j
def Iter (P : Program) (f : Nat) (kx : List Nat) (caps : List A) (need : List (Nat × O)) (items : List A) : Prop :=
  Enters P f ∧ ∃ fn c, P.funcs[f]? = some fn ∧ fn.body = some c ∧ fn.results = #[] ∧ Nat.ble (caps.length + 1) fn.ntmps = true ∧
    ∀ (cx : Cx) (l : Nat) (K L : Nat → Bool) (S : Nat → (Nat → Option O) → Prop) (D : (Nat → Option O) → Prop) (st : State), cx.P = P → cx.ro = none → cx.N = fn.ntmps → (∀ k, inL kx k = true → cx.vk k = false) → (∀ n k objs o, inL kx k = true → S n objs → S n (newO objs k o)) → (∀ n k objs o, inL kx k = true → S n objs → S n (setO objs k o)) →
      (∀ n objs, S n objs → Has objs need) → (∀ n (hn : n < items.length), YStep cx l K L [items[n]] (S n) (fun b objs => bif b then S (n + 1) objs else D objs)) →
      hitL K L caps = false → S 0 st.objs → (∀ t, st.slots t = (A.yld l :: caps).getD t .any) →
      aw cx c (fun e s => (e = .normal ∨ e = .ret) ∧ (S items.length s.objs ∨ D s.objs)) st
def nodupK : List (Nat × O) → Bool
  | [] => true
  | p :: l => l.all (fun q => !(Nat.beq q.1 p.1)) && nodupK l
theorem nodupK_mem {l : List (Nat × O)} (h : nodupK l = true) {p : Nat × O} (hp : p ∈ l) : objL l p.1 = some p.2 := by
  induction l with
  | nil => cases hp
  | cons q l ih =>
    simp only [nodupK, Bool.and_eq_true, List.all_eq_true, Bool.not_eq_true'] at h
    rcases List.mem_cons.1 hp with rfl | hp
    · simp [objL]
    · simp only [objL, h.1 p hp, cond_false]; exact ih h.2 hp
def chkL (ob : List (Nat × O)) (sl : List (Nat × A)) : Bool := nodupK ob && (ob.all fun p => p.2.within (keyIn ob)) && (sl.all fun p => p.2.within (keyIn ob))
theorem Sim.has {cx : Cx} {objs : Nat → Option O} {sl : List (Nat × A)} {ob : List (Nat × O)} {a : Act} {w : World} (h : Sim cx ⟨slotL sl, objs⟩ a w) (ho : Has objs ob) (hc : chkL ob sl = true) (hsl : slotsIs ⟨slotL sl, objs⟩ sl) : Sim cx (mk sl ob) a w := by
  simp only [chkL, Bool.and_eq_true] at hc
  refine h.fit (ρ := id) ⟨fun p hp => ?_, hc.1.2, injOn_id _, fun _ _ => rfl⟩ (fun p hp => ?_) hc.2
  · rw [oren_id]; exact ho _ _ (nodupK_mem hc.1.1 hp)
  · rw [ren_id]
    exact (show ∀ l : List (Nat × A), slotsIs (⟨slotL sl, objs⟩ : State) l → ∀ p ∈ l, slotL sl p.1 = p.2 from fun l => by
      induction l with
      | nil => intro _ p hp; cases hp
      | cons q l ih =>
        intro h p hp
        obtain ⟨t, x⟩ := q
        rcases List.mem_cons.1 hp with rfl | hp
        · exact h.1
        · exact ih h.2 p hp) sl hsl p hp
theorem slotsIs_slotL {st : State} : ∀ {l : List (Nat × A)}, slotsIs st l → ∀ t, slotL l t = .any ∨ slotL l t = st.slots t
  | [], _, t => .inl rfl
  | (k, x) :: l, h, t => by
    simp only [slotL]
    cases hb : Nat.beq t k with
    | true => rw [beq_iff.1 hb]; exact .inr h.1.symm
    | false => exact slotsIs_slotL h.2 t
theorem objsIs_has {st : State} : ∀ {l : List (Nat × O)}, objsIs st l → Has st.objs l
  | [], _, i, o, h => by cases h
  | (k, x) :: l, h, i, o, ho => by
    simp only [objL] at ho
    cases hb : Nat.beq i k with
    | true => rw [hb, cond_true, Option.some.injEq] at ho; subst ho; rw [beq_iff.1 hb]; exact h.1
    | false => rw [hb, cond_false] at ho; exact objsIs_has h.2 i o ho
theorem Inv.more {cx : Cx} {rs : List Nat} {b : Nat} {E : Env} {objs : Nat → Option O} {w : World} (hi : Inv (cx.at rs) E objs w) (h1 : ∀ k, ¬ E.fp k b) (h2 : cx.w0.heap.size ≤ b) (h3 : w.heap[b]? = some (.deferred (some []))) (h4 : b ∉ rs ++ cx.mk0) : Inv (cx.at (b :: rs)) E objs w :=
  ⟨hi.obj, hi.dead, hi.disj, hi.own, hi.rd, hi.frame, hi.size, hi.os, hi.tape, hi.output, hi.R0, hi.tk0, hi.bl0, List.nodup_cons.2 ⟨h4, hi.nd⟩, fun c hc => by
    rcases List.mem_cons.1 (show c ∈ b :: (rs ++ cx.mk0) from hc) with rfl | hc
    · exact ⟨h1, h2, heap_lt h3, h3⟩
    · exact hi.mks c hc⟩
theorem aw_range {α : Type} {cx : Cx} {Q : Exit → State → Prop} {st : State} {g : Operand} {p : Nat} {assign body : Code} {f : Nat} {kx : List Nat} {caps : List A} {need : List (Nat × O)} {items : List A} (hit : Iter cx.P f kx caps need items) (hg : st.ev g = .clo f caps)
    (hro : cx.ro = none) (hp : Nat.blt p cx.N = true) (kl : Nat) (vs rk : List Nat) (sl slv : List (Nat × A)) (keep : List (Nat × O)) (ob : Nat → α → List (Nat × O)) (I : Nat → α → Prop) (J : Code → List (Nat × O) → Prop) (item' : Nat → A)
    (x0 : α) (hI : I 0 x0) (hkl : inL (vs ++ rk) kl = false) (hvkl : cx.vk kl = false) (hrk : ∀ k, inL rk k = true → cx.vk k = false) (hvx : ∀ k, inL kx k = true → cx.vk k = false)
    (hkx : kx.all (fun k => !(inL (vs ++ rk) k) && !(Nat.beq k kl) && !(hitL (inL [k]) noK (sl.map (·.2))) && keep.all fun q => q.2.calm (inL [k]) noK && !(Nat.beq q.1 k)) = true)
    (hkeep : (keep.all fun q => q.2.calm (inL rk) (inL (vs ++ rk)) && !(inL (vs ++ rk) q.1) && !(Nat.beq q.1 kl) && q.2.calm (inL [kl]) noK) = true)
    (hsl : hitL (inL rk) (inL (vs ++ rk)) (sl.map (·.2)) = false) (hsl2 : hitL (inL [kl]) noK (sl.map (·.2)) = false) (hsl3 : slotsIs ⟨slotL sl, st.objs⟩ sl) (hcaps : hitL (inL rk) (inL (vs ++ rk)) caps = false) (hcaps2 : hitL (inL [kl]) noK caps = false)
    (hob0 : objsIs st (keep ++ ob 0 x0)) (hsl0 : slotsIs st sl) (hneed : ∀ objs, Has objs keep → Has objs need)
    (hl : ∀ n x, I n x → lentOk vs rk (ob n x) = true) (hlJ : ∀ c po, J c po → lentOk vs rk po = true) (hc : ∀ n x, I n x → chkL (keep ++ ob n x) sl = true) (hcJ : ∀ c po, J c po → chkL (keep ++ po) sl = true)
    (hitem : ∀ n (hn : n < items.length) x objs, I n x → Vw objs (ob n x) id items[n] (item' n)) (hvw : ∀ n x, I n x → VwS (objL (keep ++ ob n x)) (ob n x) sl slv)
    (hbody : ∀ n (_ : n < items.length) x, I n x → ∀ cxr : Cx, cxr.P = cx.P → (∃ l, cxr.ro = some l) → cxr.N = cx.N → (∀ k, cxr.vk k = isVar (objL (ob n x) k)) →
      aw cxr assign (fun e s => e = .normal ∧ ∀ cxr' : Cx, cxr'.P = cx.P → (∃ l, cxr'.ro = some l) → cxr'.N = cx.N → (∀ k, cxr'.vk k = isVar (objL (ob n x) k)) →
        aw cxr' body (fun e s' => ∃ po ρ, RoundE (fun po => ∃ x', I (n + 1) x' ∧ po = ob (n + 1) x') J e po ∧ Fits cxr' s' ρ po) s) (mk ((p, item' n) :: slv) (ob n x)))
    (hfin : ∀ x, I items.length x → Q .normal (mk sl (keep ++ ob items.length x))) (hjump : ∀ c po, J c po → aw cx c Q (mk sl (keep ++ po))) :
    aw cx (.rangeFunc g #[p] assign body) Q st := by
  intro a w hs
  obtain ⟨rs, h0d, h1s, E, hi, hr⟩ := hs
  obtain ⟨hent, fnI, c, hf, hb, hres, hnt, hrun⟩ := hit
  have hgv := State.ev_rep hr g
  rw [hg] at hgv
  generalize hv : a.eval g = v at hgv
  cases hgv with
  | clo _ _ cvs hcs hcr =>
  refine wpIn_rangeFunc fun fn _ => ?_
  let b := w.heap.size
  let l := w.heap.size + 1
  let r0 : Loop := { state := .ready, pending := none, fn, tmps := a.tmps, params := #[p], assign, body, defers := b }
  let w1 := (w.alloc (.deferred (some []))).alloc (.loop r0)
  let args : Array Value := #[.func (.yield l) #[] #[]] ++ cvs
  have hw : ∀ c, c < w.heap.size → w1.heap[c]? = w.heap[c]? := fun c hc => by
    rw [heap_alloc_lt _ _ (by simp; omega), heap_alloc_lt _ _ hc]
  have hwb : w1.heap[b]? = some (.deferred (some [])) := by
    rw [heap_alloc_lt _ _ (by simp [b])]; exact heap_alloc_at _ _
  have hwl : w1.heap[l]? = some (.loop r0) := by
    have := heap_alloc_at (w.alloc (.deferred (some []))) (.loop r0)
    rw [World.size_alloc] at this; exact this
  have hwsz : w1.heap.size = w.heap.size + 2 := by simp [w1]
  -- the objects
  let E1 := replE E [] kl l 0 False (fun c => c = l)
  have hrep0 : ∀ x u, Rep E w u x → x.hit (inL [kl]) noK = false → Rep E1 w1 u x := fun x u h hh => Rep.off (rep_change hi (K := inL [kl]) (fun c hc _ => hw c hc) _ _ h hh) repl_off hh
  have hslots : ∀ t, Rep E1 w1 (a.tmps.getD t undef) (slotL sl t) := fun t => by
    rcases slotsIs_slotL hsl0 t with e | e
    · rw [e]; exact .any _
    · refine hrep0 _ _ (by rw [e]; exact hr t) ?_
      rcases slotL_mem (l := sl) (t := t) with e2 | ⟨q, hq, _, e2⟩
      · rw [e2]; rfl
      · rw [e2]
        obtain ⟨j, hj, rfl⟩ := List.getElem_of_mem hq
        have := hitL_get hsl2 j (by simpa using hj)
        simpa using this
  obtain ⟨hi1, _⟩ := repl_inv (st := st) (w' := w1) (ks := []) (k := kl) (b := l) (cap := 0) (real := False) (F := fun c => c = l) (o := .lp l r0 sl) hi hvkl (fun c hc _ => hw c hc) (by omega) rfl rfl rfl
    (fun c hc => .inr (by omega)) (fun c hc => by omega) (.lp l r0 sl replE_bl (by rw [replE_fp]) hwl hslots)
  let objs1 := (st.repl [] kl (.lp l r0 sl)).objs
  have hi2 : Inv (cx.at (b :: rs)) E1 objs1 w1 := by
    refine hi1.more (fun k hk => ?_) hi.size hwb (fun hm => ?_)
    · show False
      have hk' : (if k = kl then (fun c => c = l) else if k ∈ ([] : List Nat) then fun _ => False else E.fp k) b := hk
      by_cases e : k = kl
      · rw [if_pos e] at hk'
        exact Nat.succ_ne_self w.heap.size (Eq.symm (show w.heap.size = w.heap.size + 1 from hk'))
      · rw [if_neg e] at hk'
        simp at hk'
        exact absurd (hi.own _ _ hk').1 (Nat.lt_irrefl _)
    · exact absurd (hi.mks b hm).2.2.1 (Nat.lt_irrefl _)
  have hkc : ∀ q ∈ keep, q.2.calm (inL rk) (inL (vs ++ rk)) = true ∧ inL (vs ++ rk) q.1 = false ∧ Nat.beq q.1 kl = false ∧ q.2.calm (inL [kl]) noK = true := fun q hq => by
    have := List.all_eq_true.1 hkeep q hq
    simp only [Bool.and_eq_true, Bool.not_eq_true'] at this
    exact ⟨this.1.1.1, this.1.1.2, this.1.2, this.2⟩
  have hall := objsIs_has hob0
  have hl0 := hl 0 x0 hI
  have ob1 : ∀ i o, objL (keep ++ ob 0 x0) i = some o → objs1 i = some o := fun i o ho => by
    have hst := hall i o ho
    have key : Nat.beq i kl = false ∧ o.kill (inL [kl]) noK = o := by
      rw [objL_append] at ho
      cases hk : objL keep i with
      | some o' =>
        rw [hk] at ho
        simp only [Option.some.injEq] at ho
        subst ho
        have := hkc _ (objL_some hk)
        exact ⟨this.2.2.1, ocalm_kill (fun _ h => h) (fun _ h => h) this.2.2.2⟩
      | none =>
        rw [hk] at ho
        simp only at ho
        have hik : keyIn (ob 0 x0) i = true := keyIn_of ho
        have hne : Nat.beq i kl = false := by
          cases hb : Nat.beq i kl with
          | false => rfl
          | true =>
            have e := beq_iff.1 hb; subst e
            rw [lentOk_keys hl0, hkl] at hik; cases hik
        refine ⟨hne, ?_⟩
        have hpl : o.plain (keyIn (ob 0 x0)) = true := by
          simp only [lentOk, Bool.and_eq_true, List.all_eq_true] at hl0
          exact (hl0.1.1 _ (objL_some ho)).1
        cases o with
        | row => rfl
        | lp => simp [O.plain] at hpl
        | var cs =>
          simp only [O.kill]
          congr 1
          conv => rhs; rw [← List.map_id cs]
          refine List.map_congr_left fun x hx => ?_
          obtain ⟨j, hj, rfl⟩ := List.getElem_of_mem hx
          rw [A.kill_eq, plain_nohit (K := keyIn (ob 0 x0)) (fun k hk => ?_) _ (plainL_get hpl j hj)]
          · rfl
          · cases hb : Nat.beq k kl with
            | false => simp [inL, hb]
            | true =>
              have e := beq_iff.1 hb; subst e
              rw [lentOk_keys hl0, hkl] at hk; cases hk
    show (bif Nat.beq i kl then _ else bif inL [] i then none else (st.objs i).map (O.kill (inL [kl]) noK)) = _
    rw [key.1, cond_false, hst]
    exact congrArg some key.2
  have h1k : objs1 kl = some (.lp l r0 sl) := by
    show (bif Nat.beq kl kl then _ else _) = _
    rw [beq_iff.2 rfl, cond_true]
  -- the iterator
  let cxi : Cx := { cx.at (b :: rs) with N := fnI.ntmps, ro := none }
  let S : Nat → (Nat → Option O) → Prop := fun n objs => ∃ po, (∃ x, I n x ∧ po = ob n x) ∧ objs kl = some (.lp l { r0 with state := .ready, pending := none } sl) ∧ Has objs po ∧ Has objs keep
  let D : (Nat → Option O) → Prop := fun objs => ∃ c po, J c po ∧ objs kl = some (.lp l { r0 with state := .done, pending := some c } sl) ∧ Has objs po ∧ Has objs keep
  have hS0 : S 0 objs1 := ⟨_, ⟨x0, hI, rfl⟩, h1k, fun i o ho => by
      have hn : objL keep i = none := by
        cases hk : objL keep i with
        | none => rfl
        | some o' =>
          have := (hkc _ (objL_some hk)).2.1
          simp only at this
          rw [← lentOk_keys hl0, keyIn_of ho] at this; cases this
      exact ob1 i o (by rw [objL_append, hn]; exact ho), fun i o ho => ob1 i o (by rw [objL_append, ho])⟩
  have hstep : ∀ n (hn : n < items.length), YStep cxi l (inL rk) (inL (vs ++ rk)) [items[n]] (S n) (fun bb objs => bif bb then S (n + 1) objs else D objs) := fun n hn =>
    ystep_of (r := r0) (fun po => ∃ x, I n x ∧ po = ob n x) (fun po => ∃ x, I (n + 1) x ∧ po = ob (n + 1) x) J rfl hp h1s hkl
      (List.all_eq_true.2 fun q hq => by have := hkc q hq; simp [this.1, this.2.1, this.2.2.1]) hsl hrk
      (fun po ⟨x, h1, h2⟩ => by rw [h2]; exact hl n x h1) (fun po ⟨x, h1, h2⟩ => by rw [h2]; exact hl _ x h1) hlJ
      (fun po objs ⟨x, h1, h2⟩ => by rw [h2]; exact hitem n hn x objs h1) (fun po ⟨x, h1, h2⟩ => by rw [h2]; exact hvw n x h1)
      (fun po ⟨x, h1, h2⟩ cxr e1 e2 e3 e4 => by subst h2; exact aw_mono (hbody n hn x h1 cxr e1 ⟨l, e2⟩ e3 e4) fun e s h => ⟨h.1, fun cxr' f1 f2 f3 f4 => h.2 cxr' f1 ⟨l, f2⟩ f3 f4⟩)
  have hkx' : ∀ k, inL kx k = true → inL (vs ++ rk) k = false ∧ Nat.beq k kl = false ∧ hitL (inL [k]) noK (sl.map (·.2)) = false ∧ ∀ q ∈ keep, q.2.calm (inL [k]) noK = true ∧ Nat.beq q.1 k = false := fun k hk => by
    have := List.all_eq_true.1 hkx k (inL_iff.1 hk)
    simp only [Bool.and_eq_true, Bool.not_eq_true', List.all_eq_true] at this
    exact ⟨this.1.1.1, this.1.1.2, this.1.2, fun q hq => this.2 q hq⟩
  have hfar : ∀ k, inL kx k = true → ∀ n x, I n x → (Nat.beq kl k = false) ∧ (∀ i o, objL (ob n x) i = some o → Nat.beq i k = false ∧ o.kill (inL [k]) noK = o) ∧ (∀ i o, objL keep i = some o → Nat.beq i k = false ∧ o.kill (inL [k]) noK = o) := fun k hk n x hx => by
    obtain ⟨h1, h2, h3, h4⟩ := hkx' k hk
    have hlo := hl n x hx
    refine ⟨by cases hb : Nat.beq kl k with | false => rfl | true => (have e := beq_iff.1 hb; subst e; rw [beq_iff.2 rfl] at h2; cases h2), fun i o ho => ⟨?_, ?_⟩, fun i o ho => ⟨(h4 _ (objL_some ho)).2, ocalm_kill (fun _ h => h) (fun _ h => h) (h4 _ (objL_some ho)).1⟩⟩
    · cases hb : Nat.beq i k with
      | false => rfl
      | true =>
        have e := beq_iff.1 hb; subst e
        have := keyIn_of ho
        rw [lentOk_keys hlo, h1] at this; cases this
    · have hpl : o.plain (keyIn (ob n x)) = true := by
        simp only [lentOk, Bool.and_eq_true, List.all_eq_true] at hlo
        exact (hlo.1.1 _ (objL_some ho)).1
      have hno : ∀ j, keyIn (ob n x) j = true → inL [k] j = false := fun j hj => by
        cases hb : Nat.beq j k with
        | false => simp [inL, hb]
        | true =>
          have e := beq_iff.1 hb; subst e
          rw [lentOk_keys hlo, h1] at hj; cases hj
      cases o with
      | row => rfl
      | lp => simp [O.plain] at hpl
      | var cs => exact ocalm_kill (K := inL [k]) (L := noK) (fun _ h => h) (fun _ h => h) (by simp only [O.calm, plainL_nohit hno cs hpl]; rfl)
  have hstab1 : ∀ n k objs o, inL kx k = true → S n objs → S n (newO objs k o) := by
    rintro n k objs o hk ⟨po, ⟨x, hx, rfl⟩, h1, h2, h3⟩
    obtain ⟨g1, g2, g3⟩ := hfar k hk n x hx
    refine ⟨_, ⟨x, hx, rfl⟩, ?_, fun i o' ho => ?_, fun i o' ho => ?_⟩
    · simp only [newO, g1, cond_false, inL, h1, Option.map_some]
      rw [show (fun x => Nat.beq x k || false) = inL [k] from rfl, ocalm_kill (K := inL [k]) (L := noK) (fun _ h => h) (fun _ h => h) (by simp only [O.calm, (hkx' k hk).2.2.1]; rfl)]
    · obtain ⟨g4, g5⟩ := g2 i o' ho
      simp only [newO, g4, cond_false, inL, h2 i o' ho, Option.map_some]
      exact congrArg some g5
    · obtain ⟨g4, g5⟩ := g3 i o' ho
      simp only [newO, g4, cond_false, inL, h3 i o' ho, Option.map_some]
      exact congrArg some g5
  have hstab2 : ∀ n k objs o, inL kx k = true → S n objs → S n (setO objs k o) := by
    rintro n k objs o hk ⟨po, ⟨x, hx, rfl⟩, h1, h2, h3⟩
    obtain ⟨g1, g2, g3⟩ := hfar k hk n x hx
    refine ⟨_, ⟨x, hx, rfl⟩, ?_, fun i o' ho => ?_, fun i o' ho => ?_⟩
    · simp only [setO, g1, cond_false, h1]
    · simp only [setO, (g2 i o' ho).1, cond_false, h2 i o' ho]
    · simp only [setO, (g3 i o' ho).1, cond_false, h3 i o' ho]
  have hawi := hrun cxi l (inL rk) (inL (vs ++ rk)) S D ⟨fun t => (A.yld l :: caps).getD t .any, objs1⟩ rfl rfl rfl hvx hstab1 hstab2 (fun n objs ⟨_, _, _, _, hk⟩ => hneed objs hk) hstep hcaps hS0 (fun _ => rfl)
  have hnt' : caps.length + 1 ≤ fnI.ntmps := Nat.le_of_ble_eq_true hnt
  have hasz : args.size = caps.length + 1 := by simp [args]; omega
  have hsimi : Sim cxi ⟨fun t => (A.yld l :: caps).getD t .any, objs1⟩ { tmps := args ++ Array.replicate (fnI.ntmps - args.size) undef, defers := [] } w1 := by
    refine ⟨[], rfl, by simp [cxi, hasz]; omega, E1, ⟨hi2.obj, hi2.dead, hi2.disj, hi2.own, hi2.rd, hi2.frame, hi2.size, hi2.os, hi2.tape, hi2.output, hi2.R0, hi2.tk0, hi2.bl0, hi2.nd, hi2.mks⟩, fun t => ?_⟩
    show Rep E1 w1 _ ((A.yld l :: caps).getD t .any)
    by_cases ht : t < args.size
    · simp only [Array.getD_eq_getD_getElem?]
      rw [Array.getElem?_append_left ht]
      cases t with
      | zero =>
        rw [show args[0]? = some (.func (.yield l) #[] #[]) from by
          show (#[Value.func (.yield l) #[] #[]] ++ cvs)[0]? = _
          rw [Array.getElem?_append_left (by simp)]; rfl]
        exact .yld l
      | succ t =>
        have htc : t < caps.length := by omega
        have h1 := hrep0 _ _ (hcr t htc) (hitL_get hcaps2 t htc)
        simp only [List.getD_eq_getElem?_getD, List.getElem?_cons_succ, List.getElem?_eq_getElem htc, Option.getD_some]
        have e : args[t + 1]? = cvs[t]? := by
          simp only [args]
          rw [Array.getElem?_append_right (by simp)]; simp
        rw [e]
        simpa [Array.getD_eq_getD_getElem?] using h1
    · rw [List.getD_eq_getElem?_getD, List.getElem?_eq_none (by simp; omega)]; exact .any _
  have hwpi := hawi _ _ hsimi
  refine ⟨l, marks [b], w1, { target := .fn (.func f) cvs, args := #[.func (.yield l) #[] #[]] }, w1, f, args, w1, ?_, ?_, fun _ _ => trivial, ?_, fun h => by simp [fence] at h, ?_⟩
  · show (Instr.enterLoop fn a.tmps #[p] assign body cx.ro).run cx.P w = _
    rw [hro]; exact run_enter0 _ _ _ _ _
  · have hy : a.eval (.const (.func (.yield l) #[] #[])) = .func (.yield l) #[] #[] := rfl
    simp [resolve, hv, Deferred.ofValue, hy]
  · simp only [invoke]
    exact hent _ _
  · show CallsIn (fence none) 0 cx.P f args w1 _
    refine calls_of_marks hf hb trivial (wpIn_mono hwpi ?_)
    rintro e a' w' ⟨s, ⟨he, hSD⟩, hs'⟩
    obtain ⟨rs', hd', _, E2, hi3, hr3⟩ := hs'
    obtain ⟨w2, htk, hi4, _⟩ := takes_inv (cx := cxi) rs' w' hi3 hr3
    have fin : ∃ rs, a'.defers = marks rs ∧ ∃ w2, Takes cx.P rs w' w2 ∧ ∃ v, (results fnI a'.tmps).run cx.P w2 = .ok v w2 ∧ rangePost (fence cx.ro) 0 cx.P l (post cx Q) { a with defers := marks [b] ++ a.defers } (.returned v) w2 := by
      refine ⟨rs', hd', w2, htk, .tuple #[], by simp [results, hres], ?_⟩
      have go : ∀ (r' : Loop) (po : List (Nat × O)), r'.tmps = a.tmps → r'.state ≠ .busy → s.objs kl = some (.lp l r' sl) → Has s.objs po → Has s.objs keep → lentOk vs rk po = true → chkL (keep ++ po) sl = true →
          ∃ w4, (Instr.endLoop l).run cx.P w2 = .ok r'.pending w4 ∧ Sim cx (mk sl (keep ++ po)) { a with defers := marks [b] ++ a.defers } w4 := by
        intro r' po ht hb' hk hpo hkp hlo hch
        have hlp := hi4.obj _ _ hk
        cases hlp with
        | lp _ _ _ hbl hfp hh hrt =>
        obtain ⟨hi5, hrep5⟩ := lp_put (r' := { r' with state := .exhausted }) hi4 hk rfl
        refine ⟨_, run_over hh hb', ?_⟩
        refine Sim.has (objs := fun j => bif Nat.beq j kl then some (.lp l { r' with state := .exhausted } sl) else s.objs j) ⟨b :: rs, ?_, h1s, E2, ⟨hi5.obj, hi5.dead, hi5.disj, hi5.own, hi5.rd, hi5.frame, hi5.size, hi5.os, hi5.tape, hi5.output, hi5.R0, hi5.tk0, hi5.bl0, hi5.nd, hi5.mks⟩, fun t => ?_⟩ (fun i o ho => ?_) hch ?_
        · show marks [b] ++ a.defers = marks (b :: rs)
          rw [h0d]; rfl
        · have h6 := hrt t
          rw [ht] at h6
          exact hrep5 _ _ h6
        · have hne : Nat.beq i kl = false := by
            cases hb2 : Nat.beq i kl with
            | false => rfl
            | true =>
              have e := beq_iff.1 hb2; subst e
              rw [objL_append] at ho
              cases hk2 : objL keep i with
              | some o' => have := (hkc _ (objL_some hk2)).2.2.1; simp at this
              | none =>
                rw [hk2] at ho
                have := keyIn_of ho
                rw [lentOk_keys hlo, hkl] at this; cases this
          show (bif Nat.beq i kl then _ else s.objs i) = _
          rw [hne, cond_false]
          exact Has.append hkp hpo i o ho
        · exact (show ∀ l', slotsIs (⟨slotL sl, st.objs⟩ : State) l' → slotsIs (⟨slotL sl, _⟩ : State) l' from fun l' => by
            induction l' with
            | nil => exact fun _ => trivial
            | cons q l' ih => exact fun h => ⟨h.1, ih h.2⟩) sl hsl3
      rcases hSD with ⟨po, ⟨x, hx, rfl⟩, hk, hpo, hkp⟩ | ⟨c, po, hj, hk, hpo, hkp⟩
      · obtain ⟨w4, h1, h2⟩ := go { r0 with state := .ready, pending := none } _ rfl (fun e => by cases e) hk hpo hkp (hl _ x hx) (hc _ x hx)
        exact ⟨none, w4, h1, _, hfin x hx, h2⟩
      · obtain ⟨w4, h1, h2⟩ := go { r0 with state := .done, pending := some c } _ rfl (fun e => by cases e) hk hpo hkp (hlJ _ _ hj) (hcJ _ _ hj)
        exact ⟨some c, w4, h1, hjump c po hj _ _ h2⟩
    rcases he with rfl | rfl
    · exact fin
    · exact fin
end Go.AL
namespace Go.AL
section
variable {cx : Cx} {Q : Exit → State → Prop} {st : State}
theorem imp_slots {sl : List (Nat × A)} (h : slotsIs st sl) : Imp cx st ⟨slotL sl, st.objs⟩ := by
  intro a w ⟨rs, h0, h1, E, hi, hr⟩
  refine ⟨rs, h0, h1, E, hi, fun t => ?_⟩
  rcases slotsIs_slotL h t with e | e
  · show Rep E w _ (slotL sl t); rw [e]; exact .any _
  · show Rep E w _ (slotL sl t); rw [e]; exact hr t
theorem aw_loopS {α : Type} {c : Code} (sl : α → List (Nat × A)) (I : α → (Nat → Option O) → Prop) (μ : α → Nat) (x0 : α) (h0 : I x0 st.objs) (hs : slotsIs st (sl x0))
    (round : ∀ x objs, I x objs → aw cx c (AThen (fun s' => ∃ x', μ x' < μ x ∧ I x' s'.objs ∧ slotsIs s' (sl x')) Q) ⟨slotL (sl x), objs⟩) : aw cx (.loop c) Q st := by
  refine aw_loop (fun x s => I x s.objs ∧ slotsIs s (sl x)) μ x0 ⟨h0, hs⟩ ?_
  rintro x s ⟨h1, h2⟩
  exact aw_imp (imp_slots h2) (round x s.objs h1)
theorem round_end {N : List (Nat × O) → Prop} {J : Code → List (Nat × O) → Prop} {e : Exit} (po : List (Nat × O)) (ρ : Nat → Nat) (hE : RoundE N J e po) (h3 : objsAt st ρ po) (h4 : (po.all fun p => p.2.within (keyIn po)) = true)
    (h5 : injOn ρ (po.map (·.1)) = true) (h6 : ∀ k, cx.vk k = true → ρ k = k) : ∃ po ρ, RoundE N J e po ∧ Fits cx st ρ po :=
  ⟨po, ρ, hE, objsAt_iff h3, h4, h5, h6⟩
theorem round_id {N : List (Nat × O) → Prop} {J : Code → List (Nat × O) → Prop} {e : Exit} (po : List (Nat × O)) (hE : RoundE N J e po) (h3 : objsIs st po) (h4 : (po.all fun p => p.2.within (keyIn po)) = true) : ∃ po ρ, RoundE N J e po ∧ Fits cx st ρ po :=
  round_end po id hE (objsIs_at h3) h4 (injOn_id _) fun _ _ => rfl
end
end Go.AL
namespace Go.AL
open Go.Proofs
def placed (f : Fn) : List (Inst × Nat × Nat) := f.blocks.zipIdx.flatMap fun p => p.1.zipIdx.map fun q => (q.1, p.2, q.2)
def instA (x : Inst) : List A := [.v (.int .i64 x.op), .v (.int .i64 x.w), .v (.int .i64 x.fl), .dat none (.sl 1 (ints x.args)), .v (.int .u32 x.imm), .dat none (.sl 1 (ints x.to))]
def itemA (v : Nat) (p : Inst × Nat × Nat) : A := .st (instA p.1 ++ [.v (.int .i64 v), .v (.int .i64 p.2.1), .v (.int .i64 p.2.2)])
def itemsA (f : Fn) : List A := (placed f).mapIdx fun n p => itemA (f.params.length + n) p
theorem placed_go : ∀ (bs : List (List Inst)) (k b i : Nat) (hb : b < bs.length) (hi : i < bs[b].length),
    ((bs.zipIdx k).flatMap fun p => p.1.zipIdx.map fun q => (q.1, p.2, q.2))[total (bs.take b) + i]? = some (bs[b][i], k + b, i)
  | l :: bs, k, 0, i, hb, hi => by
    simp only [List.zipIdx_cons, List.flatMap_cons, List.take_zero]
    have : total ([] : List (List Inst)) = 0 := rfl
    rw [this, Nat.zero_add, List.getElem?_append_left (by simpa using hi)]
    simp [List.getElem?_eq_getElem (show i < l.length from hi)]
  | l :: bs, k, b + 1, i, hb, hi => by
    simp only [List.zipIdx_cons, List.flatMap_cons, List.take_succ_cons]
    have e : total (l :: bs.take b) = l.length + total (bs.take b) := by simp [total]
    rw [e, List.getElem?_append_right (by simp; omega)]
    have := placed_go bs (k + 1) b i (by simpa using hb) (by simpa using hi)
    simp only [List.length_map, List.length_zipIdx]
    rw [show l.length + total (bs.take b) + i - l.length = total (bs.take b) + i from by omega, this]
    simp; omega
theorem placed_get {f : Fn} {b i : Nat} (hb : b < f.blocks.length) (hi : i < f.blocks[b].length) : (placed f)[total (f.blocks.take b) + i]? = some (f.blocks[b][i], b, i) := by
  have := placed_go f.blocks 0 b i hb hi
  rw [Nat.zero_add] at this
  exact this
theorem placed_len (f : Fn) : (placed f).length = total f.blocks := by
  unfold placed total
  have : ∀ (bs : List (List Inst)) (k : Nat), ((bs.zipIdx k).flatMap fun p => p.1.zipIdx.map fun q => (q.1, p.2, q.2)).length = bs.flatten.length := by
    intro bs
    induction bs with
    | nil => exact fun _ => rfl
    | cons l bs ih => intro k; simp only [List.zipIdx_cons, List.flatMap_cons, List.length_append, List.length_map, List.length_zipIdx, List.flatten_cons, ih]
  exact this _ 0
theorem items_len (f : Fn) : (itemsA f).length = total f.blocks := by rw [itemsA, List.length_mapIdx, placed_len]
theorem items_get {f : Fn} {b i : Nat} (hb : b < f.blocks.length) (hi : i < f.blocks[b].length) : (itemsA f)[total (f.blocks.take b) + i]? = some (itemA (numberR f b + i) (f.blocks[b][i], b, i)) := by
  rw [itemsA, List.getElem?_mapIdx, placed_get hb hi]
  simp [numberR, Nat.add_assoc]
def fnA (f : Fn) : List A := [.dat none (.sl 1 (ints f.params)), .v (.int .i64 f.ret), .dat none (.sl 1 (ints f.slots)), .dat none (.sl 1 (f.blocks.map instsD))]
theorem u129 : Tryz.prog.underlying 129 = some Tryz.t128.desc := by kernel_rfl
theorem s129 : (Tryz.prog.info? 129).map (·.size) = some 9 := by kernel_rfl
theorem z129 : (Tryz.prog.info? 129).bind (·.zero) = Tryz.t129.zero := by kernel_rfl
theorem b129 : ((Tryz.prog.info? 129).map fun i => Nat.ble i.bytes 1000) = some true := by kernel_rfl
theorem e160 : Enters Tryz.prog 160 := enters_of Tryz.func160 (by kernel_rfl) (by kernel_rfl)
set_option maxRecDepth 100000 in
set_option maxHeartbeats 4000000 in
theorem it160 (f : Fn) (hf : f.Fits) (kb : Nat) (hkb : Nat.beq kb 160001 = false) : Iter Tryz.prog 160 [160001] [.pt kb 0] [(kb, .var (fnA f))] (itemsA f) := by
  refine ⟨e160, Tryz.f160, _, Tryz.func160, rfl, by kernel_rfl, by kernel_rfl, ?_⟩
  intro cx l K L S D st hP hro hN hvx hst1 hst2 hneed hstep hcaps hS hslots
  obtain ⟨P, ro, w0, Bin, N, R0, tk0, bl0, vk⟩ := cx
  subst hP hro hN
  have hkx : inL [160001] 160001 = true := rfl
  have hKb : K kb = false := by simpa [hitL, A.hit] using hcaps
  have hk1 : (A.pt kb 0).kill (inL [160001]) noK = .pt kb 0 := by simp only [A.kill, inL, hkb, Bool.or_false, cond_false]
  have hk2 : (A.pt kb 0).kill K L = .pt kb 0 := by simp only [A.kill, hKb, cond_false]
  have hbox : st.objs kb = some (.var (fnA f)) := hneed 0 _ hS kb _ (by simp [objL])
  have hstep' : ∀ b i (hb : b < f.blocks.length) (hi : i < f.blocks[b].length), YStep ⟨Tryz.prog, none, w0, Bin, Tryz.f160.ntmps, R0, tk0, bl0, vk, _⟩ l K L [itemA (numberR f b + i) (f.blocks[b][i], b, i)] (S (total (f.blocks.take b) + i)) (fun bb objs => bif bb then S (total (f.blocks.take b) + (i + 1)) objs else D objs) := fun b i hb hi => by
    have h1 := items_get hb hi
    obtain ⟨h2, h3⟩ := List.getElem?_eq_some_iff.1 h1
    have := hstep _ h2
    rw [h3] at this
    exact this
  refine aw_imp (imp_slots (sl := [(0, .yld l), (1, .pt kb 0)]) ⟨hslots 0, hslots 1, trivial⟩) ?_
  refine aw_seq ?_
  refine aw_region ?_
  refine al_op rfl rfl rfl (opP_fieldAddr rfl (ev_tmp rfl) u27 rfl rfl s22 rfl) ?_
  refine al_op rfl rfl rfl (opP_load_pt rfl u22 rfl (ev_tmp rfl) hbox rfl) ?_
  refine al_op rfl rfl rfl (opP_len rfl u22 (ev_tmp rfl) (by first | exact lenA_ints | exact lenA_map | rfl)) ?_
  refine al_op rfl rfl rfl (opP_assign rfl (ev_tmp rfl)) ?_
  refine al_nil ?_
  refine aw_seq ?_
  refine aw_region ?_
  refine al_op rfl rfl rfl (opP_fieldAddr rfl (ev_tmp rfl) u27 rfl rfl s25 rfl) ?_
  refine al_op rfl rfl rfl (opP_load_pt rfl u25 rfl (ev_tmp rfl) hbox rfl) ?_
  refine al_op rfl rfl rfl (opP_len rfl u25 (ev_tmp rfl) (by first | exact lenA_ints | exact lenA_map | rfl)) ?_
  refine al_op rfl rfl rfl (opP_move rfl (ev_const rfl)) ?_
  refine al_nil ?_
  refine aw_block ?_
  refine aw_loopS (α := Nat) (fun b => [(0, .yld l), (1, .pt kb 0), (3, .v (.int .i64 (numberR f b))), (12, .dat none (.sl 1 (f.blocks.map instsD))), (13, .v (.int .i64 f.blocks.length)), (14, .v (.int .i64 b))]) (fun b objs => b ≤ f.blocks.length ∧ S (total (f.blocks.take b)) objs) (fun b => f.blocks.length - b) 0 ⟨Nat.zero_le _, hS⟩ ⟨rfl, rfl, rfl, rfl, rfl, rfl, trivial⟩ ?_
  rintro b objs ⟨hb, hS⟩
  refine aw_seq ?_
  refine aw_region ?_
  refine al_op rfl rfl rfl (opP_bin rfl (ev_tmp rfl) (ev_tmp rfl) rfl) ?_
  refine al_nil ?_
  refine aw_seq ?_
  refine aw_condS rfl (fun h1 => ?_) (fun h1 => ?_)
  · refine aw_exit ?_
    have e0 : b = f.blocks.length := by simp at h1; omega
    subst e0
    rw [List.take_length] at hS
    exact ⟨.inl rfl, .inl (by rw [items_len]; exact hS)⟩
  have hbl : b < f.blocks.length := by simpa using h1
  have hbf := hf.blocks
  have hbi := hf.insts _ (List.getElem_mem hbl)
  have hnm := hf.number (b + 1)
  rw [numberR_succ hbl] at hnm
  refine aw_skip ?_
  refine aw_seq ?_
  refine aw_block ?_
  refine aw_seq ?_
  refine aw_region ?_
  refine al_op rfl rfl rfl (opP_move rfl (ev_tmp rfl)) ?_
  refine al_op rfl rfl rfl (opP_index_dat rfl u25 s35 (ev_tmp rfl) (ev_tmp rfl) (fun _ => Int.natCast_nonneg _) (fun _ => blocks_get hbl)) ?_
  refine al_op rfl rfl rfl (opP_load_pr rfl u35 rfl (ev_tmp rfl)) ?_
  refine al_op rfl rfl rfl (opP_assign rfl (ev_tmp rfl)) ?_
  refine al_op rfl rfl rfl (opP_assign rfl (ev_tmp rfl)) ?_
  refine al_nil ?_
  refine aw_seq ?_
  refine aw_region ?_
  refine al_op rfl rfl rfl (opP_move rfl (ev_tmp rfl)) ?_
  refine al_op rfl rfl rfl (opP_len rfl u35 (ev_tmp rfl) (by first | exact lenA_ints | exact lenA_map | rfl)) ?_
  refine al_op rfl rfl rfl (opP_move rfl (ev_const rfl)) ?_
  refine al_nil ?_
  refine aw_block ?_
  refine aw_loopS (α := Nat) (fun i => [(0, .yld l), (1, .pt kb 0), (3, .v (.int .i64 ((numberR f b + i : Nat) : Int))), (4, .v (.int .i64 b)), (12, .dat none (.sl 1 (f.blocks.map instsD))), (13, .v (.int .i64 f.blocks.length)), (14, .v (.int .i64 b)), (19, .dat none (instsD f.blocks[b])), (20, .v (.int .i64 f.blocks[b].length)), (21, .v (.int .i64 i))]) (fun i objs => i ≤ f.blocks[b].length ∧ S (total (f.blocks.take b) + i) objs) (fun i => f.blocks[b].length - i) 0 ⟨Nat.zero_le _, hS⟩ ⟨rfl, rfl, rfl, rfl, rfl, rfl, rfl, rfl, rfl, rfl, trivial⟩ ?_
  rintro i objs ⟨hi, hS⟩
  refine aw_seq ?_
  refine aw_region ?_
  refine al_op rfl rfl rfl (opP_bin rfl (ev_tmp rfl) (ev_tmp rfl) rfl) ?_
  refine al_nil ?_
  refine aw_seq ?_
  refine aw_condS rfl (fun h2 => ?_) (fun h2 => ?_)
  · have e0 : i = f.blocks[b].length := by simp at h2; omega
    refine aw_exit ?_
    refine aw_region ?_
    refine al_op rfl rfl rfl (opP_bin rfl (ev_tmp rfl) (ev_const rfl) rfl) ?_
    refine al_op rfl rfl rfl (opP_move rfl (ev_tmp rfl)) ?_
    refine al_nil ?_
    refine ⟨b + 1, by omega, ⟨hbl, by rw [total_take_succ hbl, ← e0]; exact hS⟩, rfl, rfl, ?_, rfl, rfl, ?_, trivial⟩
    · rw [numberR_succ hbl, ← e0]; rfl
    · rw [← wrapS (by omega)]; rfl
  have hil : i < f.blocks[b].length := by simpa using h2
  refine aw_skip ?_
  refine aw_seq ?_
  refine aw_block ?_
  refine aw_seq ?_
  refine aw_region ?_
  refine al_op rfl rfl rfl (opP_move rfl (ev_tmp rfl)) ?_
  refine al_op rfl rfl rfl (opP_index_dat rfl u35 s38 (ev_tmp rfl) (ev_tmp rfl) (fun _ => Int.natCast_nonneg _) (fun _ => insts_get hil)) ?_
  refine al_op rfl rfl rfl (opP_load_prn rfl u38 rfl s38 (ev_tmp rfl) rfl) ?_
  refine al_opc (k := 160001) rfl rfl rfl (hvx _ hkx) (opC_alloc rfl z38) ?_
  refine al_op rfl rfl rfl (opP_assign rfl (ev_tmp rfl)) ?_
  refine al_store_pt rfl rfl rfl s38 (ev_tmp rfl) (ev_tmp rfl) rfl rfl rfl rfl rfl rfl ?_
  refine al_nil ?_
  refine aw_seq ?_
  refine aw_seq ?_
  refine aw_region ?_
  refine al_op rfl rfl rfl (opP_move rfl (ev_tmp rfl)) ?_
  refine al_op rfl rfl rfl (opP_load_ptn rfl u38 rfl s38 (ev_tmp rfl) rfl rfl) ?_
  refine al_op rfl rfl rfl (opP_move rfl (ev_tmp rfl)) ?_
  refine al_op rfl rfl rfl (opP_move rfl (ev_tmp rfl)) ?_
  refine al_op rfl rfl rfl (opP_move rfl (ev_tmp rfl)) ?_
  refine al_op rfl rfl rfl (opP_build rfl u129 z129 rfl (.cons (ev_tmp rfl) (.cons (ev_tmp rfl) (.cons (ev_tmp rfl) (.cons (ev_tmp rfl) .nil)))) rfl) ?_
  refine al_yield (K := K) (L := L) rfl rfl rfl rfl (ev_tmp rfl) (.cons (ev_tmp rfl) .nil) (hstep' b i hbl hil) ?_ ?_
  · exact hst2 _ _ _ _ hkx (hst1 _ _ _ _ hkx hS)
  rintro bb objs2 hS2
  refine al_op rfl rfl rfl (opP_not rfl (ev_tmp rfl)) ?_
  refine al_nil ?_
  refine aw_cond rfl (fun h3 => ?_) (fun h3 => ?_)
  · refine aw_ret ?_
    have e : bb = false := by simpa using h3
    subst e
    exact ⟨.inr rfl, .inr hS2⟩
  have e : bb = true := by simpa using h3
  subst e
  refine aw_skip ?_
  refine aw_region ?_
  refine al_op rfl rfl rfl (opP_move rfl (ev_tmp rfl)) ?_
  refine al_op rfl rfl rfl (opP_bin rfl (ev_tmp rfl) (ev_const rfl) rfl) ?_
  refine al_op rfl rfl rfl (opP_assign rfl (ev_tmp rfl)) ?_
  refine al_nil ?_
  refine aw_region ?_
  refine al_op rfl rfl rfl (opP_bin rfl (ev_tmp rfl) (ev_const rfl) rfl) ?_
  refine al_op rfl rfl rfl (opP_move rfl (ev_tmp rfl)) ?_
  refine al_nil ?_
  refine ⟨i + 1, by omega, ⟨hil, hS2⟩, rfl, ?_, ?_, rfl, rfl, rfl, rfl, rfl, rfl, ?_, trivial⟩
  · show ((A.pt kb 0).kill (inL [160001]) noK).kill K L = _
    rw [hk1, hk2]
  · rw [show ((numberR f b + (i + 1) : Nat) : Int) = IntKind.i64.wrap (((numberR f b + i : Nat) : Int) + 1) from by rw [wrapI ⟨by omega, by omega⟩]; omega]; rfl
  · rw [← wrapS (by omega)]; rfl
end Go.AL
namespace Go.AL
theorem has_one {objs : Nat → Option O} {k : Nat} {o : O} {l : List (Nat × O)} (h : Has objs ((k, o) :: l)) : Has objs [(k, o)] := by
  intro i o' ho
  refine h i o' ?_
  simp only [objL] at ho ⊢
  cases hb : Nat.beq i k with
  | true => rw [hb] at ho; exact ho
  | false => rw [hb] at ho; cases ho
def itemOf (f : Fn) (n : Nat) : A := ((itemsA f)[n]?).getD .any
theorem place_of : ∀ (bs : List (List Inst)) (n : Nat), n < total bs → ∃ (b i : Nat) (hb : b < bs.length) (_ : i < bs[b].length), n = total (bs.take b) + i
  | [], n, h => by simp [total] at h
  | l :: bs, n, h => by
    by_cases hl : n < l.length
    · exact ⟨0, n, by simp, hl, by simp [total]⟩
    · have e : total (l :: bs) = l.length + total bs := by simp [total]
      obtain ⟨b, i, hb, hi, e2⟩ := place_of bs (n - l.length) (by omega)
      refine ⟨b + 1, i, by simpa using hb, by simpa using hi, ?_⟩
      have e3 : total ((l :: bs).take (b + 1)) = l.length + total (bs.take b) := by simp [total]
      rw [e3]; omega
theorem item_at {f : Fn} {n : Nat} (hn : n < (itemsA f).length) : ∃ (b i : Nat) (hb : b < f.blocks.length) (hi : i < f.blocks[b].length), n = total (f.blocks.take b) + i ∧ itemOf f n = itemA (f.params.length + n) (f.blocks[b][i], b, i) ∧
    (placed f)[n]? = some (f.blocks[b][i], b, i) := by
  obtain ⟨b, i, hb, hi, rfl⟩ := place_of f.blocks n (by rw [items_len] at hn; exact hn)
  refine ⟨b, i, hb, hi, rfl, ?_, placed_get hb hi⟩
  unfold itemOf
  rw [items_get hb hi]
  simp only [Option.getD_some, numberR, Nat.add_assoc]
theorem item_vw {f : Fn} {n : Nat} (hn : n < (itemsA f).length) (objs : Nat → Option O) (pre : List (Nat × O)) : Vw objs pre id (itemsA f)[n] (itemOf f n) := by
  obtain ⟨b, i, hb, hi, _, e, _⟩ := item_at hn
  have e2 : (itemsA f)[n] = itemOf f n := by unfold itemOf; rw [List.getElem?_eq_getElem hn]; rfl
  rw [e2, e]
  refine Vw.stOf ?_
  repeat' (first | exact VwL.nil | refine VwL.cons ?_ ?_ | constructor)
def idxR (l : List Int) (p : Int → Bool) : Int := match l.findIdx? p with | some i => (i : Int) | none => -1
theorem idx_any (l : List Int) (p : Int → Bool) : decide (idxR l p ≥ 0) = l.any p := by
  unfold idxR
  cases h : l.findIdx? p with
  | none =>
    have := List.findIdx?_eq_none_iff.1 h
    symm
    simp only [show decide ((-1 : Int) ≥ 0) = false from rfl]
    exact List.any_eq_false.2 fun x hx => by simp [this x hx]
  | some i =>
    obtain ⟨hi, hp, _⟩ := List.findIdx?_eq_some_iff_getElem.1 h
    symm
    simp only [show decide (((i : Nat) : Int) ≥ 0) = true from by simp]
    exact List.any_eq_true.2 ⟨l[i], List.getElem_mem hi, hp⟩
def classR (op : Int) : Int :=
  if op == 0 then 1 else if op == 14 then 3 else if op == 15 then 4 else if op == 16 || op == 17 then 5 else if op == 18 then 6 else if op == 19 || op == 20 then 7 else if op == 21 then 8
  else if op == 22 || op == 23 then 9 else if op == 24 then 10 else if op == 25 then 11 else if op == 26 then 12 else if op == 27 then 13 else if op == 28 then 14 else if op == 29 then 15
  else if op == 30 then 16 else if op == 31 then 17 else if op == 32 then 18 else if decide (op ≥ 1) && decide (op ≤ 13) then 2 else 0
def flagsR (op : Int) : Int :=
  if op == 1 || op == 2 || op == 3 || op == 11 then 3 else if op == 4 || op == 6 || op == 12 || op == 13 then 4 else if op == 25 then 8 else 0
def memR (k : Int) : Bool := k == 8 || k == 16 || k == 32
end Go.AL
namespace Go.AL
structure CD where
  i : Nat
  bef : List Nat
  k : Nat
  o : O
def chO : List CD → (Nat → Bool) → (Nat → Option O) → Nat → Option O
  | [], _, b, j => b j
  | c :: l, L, b, j => bif Nat.beq j c.k then (bif L c.i then some c.o else b j) else chO l L b j
def chV : List CD → (Nat → Bool) → (Nat → Option O) → Nat → Option O
  | [], _, b, j => b j
  | c :: l, L, b, j => bif Nat.beq j c.k then (bif L c.i then some c.o else none) else chV l L b j
def SM (st : State) (ps : List PD) (cs : List CD) (L : Nat → Bool) : State := ⟨pdSlot ps L (S0 st (pdKeys ps)).slots, pdObj ps L (chO cs L (S0 st (pdKeys ps)).objs)⟩
def VM (st : State) (ps : List PD) (cs : List CD) (L : Nat → Bool) : State := ⟨pdSlot ps L (S0 st (pdKeys ps)).slots, pdObj ps L (chV cs L (S0 st (pdKeys ps)).objs)⟩
def VC (st : State) (ps : List PD) (cs : List CD) (L : Nat → Bool) (k : Nat) : State :=
  ⟨pdSlot ps L (S0 st (pdKeys ps)).slots, pdObj ps L (fun j => bif Nat.beq j k then (S0 st (pdKeys ps)).objs j else chV cs L (S0 st (pdKeys ps)).objs j)⟩
def StepC (cx : Cx) (ops : Array Oper) (V : State) (o : Oper) (k : Nat) (ob : O) : Prop :=
  ∀ (rs : List Nat) (E : Env) (a : Act) (w : World) (objs' : Nat → Option O) (K : Act → World → Prop) (R : Exit → Act → World → Prop), Inv (cx.at rs) E objs' w → (∀ k o', V.objs k = some o' → objs' k = some o') → (∀ t, Rep E w (a.tmps.getD t undef) (V.slots t)) → a.tmps.size = cx.N →
    (∀ w' E', Inv (cx.at rs) E' (fun j => bif Nat.beq j k then some ob else objs' j) w' → (∀ x u', Rep E w u' x → Rep E' w' u' x) → K (a.put o.dst undef) w') → op1 cx ops o K R a w
section
variable {cx : Cx} {Q : Exit → State → Prop} {st : State} {ops : Array Oper} {ps : List PD} {cs : List CD}
inductive StepsM (cx : Cx) (ops : Array Oper) (st : State) (ps : List PD) (cs : List CD) : List PD → Prop
  | nil : StepsM cx ops st ps cs []
  | cons {p : PD} {o : Oper} {l : List PD} (ho : ops[p.i]? = some o) (h : StepD cx ops (VM st ps cs (inL p.bef)) o p.r p.new) (t : StepsM cx ops st ps cs l) : StepsM cx ops st ps cs (p :: l)
inductive StepsC (cx : Cx) (ops : Array Oper) (st : State) (ps : List PD) (cs : List CD) : List CD → Prop
  | nil : StepsC cx ops st ps cs []
  | cons {c : CD} {o : Oper} {l : List CD} (ho : ops[c.i]? = some o) (h : StepC cx ops (VC st ps cs (inL c.bef) c.k) o c.k c.o) (t : StepsC cx ops st ps cs l) : StepsC cx ops st ps cs (c :: l)
theorem StepsM.get {l : List PD} (h : StepsM cx ops st ps cs l) : ∀ p ∈ l, ∃ o, ops[p.i]? = some o ∧ StepD cx ops (VM st ps cs (inL p.bef)) o p.r p.new := by
  induction h with
  | nil => intro p hp; cases hp
  | cons ho h t ih =>
    intro p hp
    rcases List.mem_cons.1 hp with rfl | hp
    · exact ⟨_, ho, h⟩
    · exact ih p hp
theorem StepsC.get {l : List CD} (h : StepsC cx ops st ps cs l) : ∀ p ∈ l, ∃ o, ops[p.i]? = some o ∧ StepC cx ops (VC st ps cs (inL p.bef) p.k) o p.k p.o := by
  induction h with
  | nil => intro p hp; cases hp
  | cons ho h t ih =>
    intro p hp
    rcases List.mem_cons.1 hp with rfl | hp
    · exact ⟨_, ho, h⟩
    · exact ih p hp
def nodes (ps : List PD) (cs : List CD) : List (Nat × List Nat) := ps.map (fun p => (p.i, p.bef)) ++ cs.map fun c => (c.i, c.bef)
def nodeOk (ops : Array Oper) (ns : List (Nat × List Nat)) (n : Nat × List Nat) : Bool :=
  (n.2.all fun b => edge ops n.1 b || ns.any fun q => edge ops n.1 q.1 && inL q.2 b) &&
    ((ops[n.1]?).map fun o => o.after.toList.all fun e => !(Region.binds .any e) || (Nat.blt e.on n.1 && inL (ns.map (·.1)) e.on)).getD false
def mixOk (cx : Cx) (ops : Array Oper) (ps : List PD) (cs : List CD) : Bool :=
  ndup (ps.map (·.d)) && ndup (pdKeys ps ++ cs.map (·.k)) && ndup ((nodes ps cs).map (·.1)) && (nodes ps cs).all (nodeOk ops (nodes ps cs)) &&
  ps.all (fun p => Nat.blt p.d cx.N && isDst ((ops[p.i]?).bind (·.dst)) p.d &&
    ps.all (fun q => Nat.beq q.i p.i || inL q.bef p.i || (!(q.r.hit (keyIn p.new) noK) && q.new.all fun n => !(hitO (keyIn p.new) n.2))) &&
    cs.all (fun c => inL c.bef p.i || !(hitO (keyIn p.new) c.o))) &&
  cs.all (fun c => ((ops[c.i]?).map fun o => o.dst.isNone).getD false) &&
  (List.range ops.size).all (fun i => inL ((nodes ps cs).map (·.1)) i || (nodes ps cs).all fun n => edge ops i n.1)
structure MixOk (cx : Cx) (ops : Array Oper) (ps : List PD) (cs : List CD) : Prop where
  d : ndup (ps.map (·.d)) = true
  k : ndup (pdKeys ps) = true
  ck : ndup (cs.map (·.k)) = true
  kk : ∀ c ∈ cs, c.k ∉ pdKeys ps
  i : ndup (ps.map (·.i)) = true
  ci : ndup (cs.map (·.i)) = true
  pc : ∀ p ∈ ps, ∀ c ∈ cs, p.i ≠ c.i
  ni : ndup ((nodes ps cs).map (·.1)) = true
  lt : ∀ p ∈ ps, p.d < cx.N
  dst : ∀ p ∈ ps, ∀ o, ops[p.i]? = some o → o.dst = some p.d
  cdst : ∀ c ∈ cs, ∀ o, ops[c.i]? = some o → o.dst = none
  bef : ∀ n ∈ nodes ps cs, ∀ b ∈ n.2, edge ops n.1 b = true ∨ ∃ q ∈ nodes ps cs, edge ops n.1 q.1 = true ∧ b ∈ q.2
  aft : ∀ n ∈ nodes ps cs, ∀ o, ops[n.1]? = some o → ∀ e ∈ o.after, Region.binds .any e = true → e.on < n.1 ∧ ∃ q ∈ nodes ps cs, q.1 = e.on
  has : ∀ n ∈ nodes ps cs, ∃ o, ops[n.1]? = some o
  hit : ∀ p ∈ ps, ∀ q ∈ ps, q.i ≠ p.i → inL q.bef p.i = false → q.r.hit (keyIn p.new) noK = false ∧ ∀ n ∈ q.new, hitO (keyIn p.new) n.2 = false
  chit : ∀ p ∈ ps, ∀ c ∈ cs, inL c.bef p.i = false → hitO (keyIn p.new) c.o = false
  tail : ∀ i, i < ops.size → (∃ n ∈ nodes ps cs, n.1 = i) ∨ ∀ n ∈ nodes ps cs, edge ops i n.1 = true
theorem mem_nodes_p {p : PD} (hp : p ∈ ps) : (p.i, p.bef) ∈ nodes ps cs := List.mem_append_left _ (List.mem_map.2 ⟨p, hp, rfl⟩)
theorem mem_nodes_c {c : CD} (hc : c ∈ cs) : (c.i, c.bef) ∈ nodes ps cs := List.mem_append_right _ (List.mem_map.2 ⟨c, hc, rfl⟩)
theorem nodes_cases {n : Nat × List Nat} (hn : n ∈ nodes ps cs) : (∃ p ∈ ps, n = (p.i, p.bef)) ∨ ∃ c ∈ cs, n = (c.i, c.bef) := by
  rcases List.mem_append.1 hn with h | h
  · obtain ⟨p, hp, e⟩ := List.mem_map.1 h; exact .inl ⟨p, hp, e.symm⟩
  · obtain ⟨c, hc, e⟩ := List.mem_map.1 h; exact .inr ⟨c, hc, e.symm⟩
theorem mixOk_spec (h : mixOk cx ops ps cs = true) : MixOk cx ops ps cs := by
  simp only [mixOk, Bool.and_eq_true] at h
  obtain ⟨⟨⟨⟨⟨⟨hd, hk⟩, hi⟩, hn⟩, hp⟩, hc⟩, ht⟩ := h
  obtain ⟨k1, k2, k3⟩ := ndup_append hk
  have hi' : ndup (ps.map (·.i) ++ cs.map (·.i)) = true := by
    have : (nodes ps cs).map (·.1) = ps.map (·.i) ++ cs.map (·.i) := by
      simp only [nodes, List.map_append, List.map_map]; rfl
    rw [← this]; exact hi
  obtain ⟨i1, i2, i3⟩ := ndup_append hi'
  have hpall := fun p hp' => List.all_eq_true.1 hp p hp'
  simp only [Bool.and_eq_true] at hpall
  have hnall := fun n hn' => List.all_eq_true.1 hn n hn'
  simp only [nodeOk, Bool.and_eq_true] at hnall
  refine ⟨hd, k1, k2, fun c hc' hm => k3 _ hm (List.mem_map.2 ⟨c, hc', rfl⟩), i1, i2, fun p hp' c hc' e => i3 _ (List.mem_map.2 ⟨p, hp', rfl⟩) (e ▸ List.mem_map.2 ⟨c, hc', rfl⟩), hi, fun p hp' => Nat.blt_eq ▸ (hpall p hp').1.1.1,
    fun p hp' o ho => ?_, fun c hc' o ho => ?_, fun n hn' b hb => ?_, fun n hn' o ho e he hbe => ?_, fun n hn' => ?_, fun p hp' q hq hne hb => ?_, fun p hp' c hc' hb => ?_, fun i hi' => ?_⟩
  · have := (hpall p hp').1.1.2
    rw [ho] at this
    simp only [Option.bind_some] at this
    cases hd : o.dst with
    | none => rw [hd] at this; cases this
    | some t => rw [hd] at this; exact congrArg some (beq_iff.1 this)
  · have := List.all_eq_true.1 hc c hc'
    rw [ho] at this
    simpa using this
  · have := List.all_eq_true.1 (hnall n hn').1 b hb
    simp only [Bool.or_eq_true, List.any_eq_true, Bool.and_eq_true] at this
    exact this.imp id fun ⟨q, hq, h1, h2⟩ => ⟨q, hq, h1, inL_iff.1 h2⟩
  · have := (hnall n hn').2
    rw [ho] at this
    simp only [Option.map_some, Option.getD_some] at this
    have h2 := List.all_eq_true.1 this e (Array.mem_toList_iff.2 he)
    rw [hbe] at h2
    simp only [Bool.not_true, Bool.false_or, Bool.and_eq_true] at h2
    refine ⟨Nat.blt_eq ▸ h2.1, ?_⟩
    obtain ⟨q, hq, e2⟩ := List.mem_map.1 (inL_iff.1 h2.2)
    exact ⟨q, hq, e2⟩
  · have := (hnall n hn').2
    cases ho : ops[n.1]? with
    | none => rw [ho] at this; cases this
    | some o => exact ⟨o, rfl⟩
  · have := List.all_eq_true.1 (hpall p hp').1.2 q hq
    simp only [Bool.or_eq_true, Bool.and_eq_true, Bool.not_eq_true', List.all_eq_true] at this
    rcases this with (h1 | h1) | h1
    · exact absurd (beq_iff.1 h1) hne
    · rw [hb] at h1; cases h1
    · exact h1
  · have := List.all_eq_true.1 (hpall p hp').2 c hc'
    rw [hb] at this
    simpa using this
  · have := List.all_eq_true.1 ht i (List.mem_range.2 hi')
    simp only [Bool.or_eq_true, List.all_eq_true] at this
    refine this.imp (fun h => ?_) id
    obtain ⟨n, hn', e⟩ := List.mem_map.1 (inL_iff.1 h)
    exact ⟨n, hn', e⟩
def ClosedM (ops : Array Oper) (ps : List PD) (cs : List CD) (listed : Array Bool) : Prop := ∀ i, lset listed i = true → (∃ n ∈ nodes ps cs, n.1 = i) ∧ ∀ j, edge ops i j = true → lset listed j = true
theorem closedM_bef {listed : Array Bool} (hc : ClosedM ops ps cs listed) (hok : MixOk cx ops ps cs) : ∀ (m : Nat) (n : Nat × List Nat), n ∈ nodes ps cs → n.1 ≤ m → lset listed n.1 = true → ∀ b, b ∈ n.2 → lset listed b = true := by
  intro m
  induction m using Nat.strongRecOn with
  | _ m ih =>
    intro n hn hle hl b hb
    rcases hok.bef n hn b hb with h | ⟨q, hq, h1, h2⟩
    · exact (hc _ hl).2 b h
    · have hlq := (hc _ hl).2 _ h1
      obtain ⟨o, ho, e, he, hbe, hon⟩ := edge_iff.1 h1
      have hlt := (hok.aft n hn o ho e he hbe).1
      exact ih q.1 (by omega) q hq (Nat.le_refl _) hlq b h2
theorem readyM_bef {listed : Array Bool} (hok : MixOk cx ops ps cs) (hc : ClosedM ops ps cs listed) {n : Nat × List Nat} (hn : n ∈ nodes ps cs) (hr : n.1 ∈ Region.ready .any ops listed) : ∀ b ∈ n.2, lset listed b = true := by
  obtain ⟨_, o, ho, hall⟩ := mem_ready.1 hr
  have hl : ∀ j, edge ops n.1 j = true → lset listed j = true := fun j hj => by
    obtain ⟨o', ho', e, he, hbe, hon⟩ := edge_iff.1 hj
    rw [ho] at ho'; cases ho'
    rw [← hon]; exact hall e he hbe
  intro b hb
  rcases hok.bef n hn b hb with h | ⟨q, hq, h1, h2⟩
  · exact hl b h
  · exact closedM_bef hc hok q.1 q hq (Nat.le_refl _) (hl _ h1) b h2
theorem pdObj_base {L : Nat → Bool} {b b' : Nat → Option O} (h : ∀ j o, b j = some o → b' j = some o) {j : Nat} {o : O} : pdObj ps L b j = some o → pdObj ps L b' j = some o := by
  induction ps with
  | nil => exact h j o
  | cons q l ih =>
    intro ho
    simp only [pdObj] at ho ⊢
    cases hq : objL q.new j with
    | none => rw [hq] at ho; exact ih ho
    | some o' => rw [hq] at ho; exact ho
theorem chV_le {L L' : Nat → Bool} (hL : ∀ j, L j = true → L' j = true) {b : Nat → Option O} {j : Nat} {o : O} : chV cs L b j = some o → chO cs L' b j = some o := by
  induction cs with
  | nil => exact fun h => h
  | cons c l ih =>
    intro h
    simp only [chV, chO] at h ⊢
    cases hb : Nat.beq j c.k with
    | false => rw [hb] at h; exact ih h
    | true =>
      rw [hb, cond_true] at h
      cases hc : L c.i with
      | false => rw [hc] at h; cases h
      | true => rw [hc, cond_true] at h; rw [cond_true, hL _ hc]; exact h
theorem chO_at {L : Nat → Bool} {b : Nat → Option O} {c : CD} (hc : c ∈ cs) (hk : ndup (cs.map (·.k)) = true) : chO cs L b c.k = bif L c.i then some c.o else b c.k := by
  induction cs with
  | nil => cases hc
  | cons q l ih =>
    obtain ⟨h1, h2⟩ := ndup_head hk
    simp only [chO]
    rcases List.mem_cons.1 hc with rfl | hc
    · rw [beq_iff.2 rfl, cond_true]
    · have : Nat.beq c.k q.k = false := by
        cases hb : Nat.beq c.k q.k with
        | false => rfl
        | true => exact absurd (List.mem_map.2 ⟨c, hc, beq_iff.1 hb⟩) h1
      rw [this, cond_false]; exact ih hc h2
theorem chO_congr {L L' : Nat → Bool} {b : Nat → Option O} {j : Nat} (h : ∀ c ∈ cs, c.k = j → L' c.i = L c.i) : chO cs L' b j = chO cs L b j := by
  induction cs with
  | nil => rfl
  | cons q l ih =>
    simp only [chO]
    cases hb : Nat.beq j q.k with
    | true => simp only [cond_true]; rw [h q (by simp) (beq_iff.1 hb).symm]
    | false => simp only [cond_false]; exact ih fun c hc => h c (by simp [hc])
theorem chO_cases {L : Nat → Bool} {b : Nat → Option O} {j : Nat} {o : O} (h : chO cs L b j = some o) : (∃ c ∈ cs, L c.i = true ∧ c.k = j ∧ c.o = o) ∨ b j = some o := by
  induction cs with
  | nil => exact .inr h
  | cons q l ih =>
    simp only [chO] at h
    cases hb : Nat.beq j q.k with
    | true =>
      rw [hb, cond_true] at h
      cases hL : L q.i with
      | true => rw [hL, cond_true, Option.some.injEq] at h; exact .inl ⟨q, by simp, hL, (beq_iff.1 hb).symm, h⟩
      | false => rw [hL] at h; exact .inr h
    | false =>
      rw [hb] at h
      rcases ih h with ⟨c, hc, h1⟩ | h
      · exact .inl ⟨c, by simp [hc], h1⟩
      · exact .inr h
theorem pdObj_not {L : Nat → Bool} {b : Nat → Option O} {j : Nat} (h : j ∉ pdKeys ps) : pdObj ps L b j = b j := by
  induction ps with
  | nil => rfl
  | cons q l ih =>
    simp only [pdObj]
    simp only [pdKeys, List.mem_append, not_or] at h
    cases hq : objL q.new j with
    | some o => exact absurd (objL_key hq) h.1
    | none => exact ih h.2
theorem pdObj_baseq {L : Nat → Bool} {b b' : Nat → Option O} {j : Nat} (h : b j = b' j) : pdObj ps L b j = pdObj ps L b' j := by
  induction ps with
  | nil => exact h
  | cons q l ih =>
    simp only [pdObj]
    cases objL q.new j with
    | none => exact ih
    | some o => rfl
theorem ndup_inj {α : Type} {f : α → Nat} : ∀ {l : List α} {a b : α}, ndup (l.map f) = true → a ∈ l → b ∈ l → f a = f b → a = b
  | [], _, _, _, ha, _, _ => by cases ha
  | x :: l, a, b, h, ha, hb, e => by
    obtain ⟨h1, h2⟩ := ndup_head (a := f x) (l := l.map f) h
    rcases List.mem_cons.1 ha with ea | la <;> rcases List.mem_cons.1 hb with eb | lb
    · rw [ea, eb]
    · exact absurd (List.mem_map.2 ⟨b, lb, by rw [← e, ea]⟩) h1
    · exact absurd (List.mem_map.2 ⟨a, la, by rw [e, eb]⟩) h1
    · exact ndup_inj h2 la lb e
theorem mix_go (hok : MixOk cx ops ps cs) (hvk : ∀ k ∈ pdKeys ps, cx.vk k = false) (hs : StepsM cx ops st ps cs ps) (hsc : StepsC cx ops st ps cs cs) {fuelT : Nat} (hT : ∀ listed, (∀ i, lset listed i = inL ((nodes ps cs).map (·.1)) i) → listed.size = ops.size → ad cx ops fuelT listed Q (SM st ps cs fun _ => true)) :
    ∀ (n : Nat) (listed : Array Bool), ((nodes ps cs).filter fun p => !lset listed p.1).length = n → listed.size = ops.size → ClosedM ops ps cs listed → ad cx ops (n + fuelT) listed Q (SM st ps cs (lset listed)) := by
  intro n
  induction n with
  | zero =>
    intro listed hn hsz hc
    have hall : ∀ p ∈ nodes ps cs, lset listed p.1 = true := fun p hp => by
      cases h : lset listed p.1 with
      | true => rfl
      | false =>
        have : p ∈ (nodes ps cs).filter fun p => !lset listed p.1 := List.mem_filter.2 ⟨hp, by simp [h]⟩
        rw [List.eq_nil_of_length_eq_zero hn] at this; cases this
    have e2 : SM st ps cs (lset listed) = SM st ps cs fun _ => true := by
      have h1 : ∀ p ∈ ps, lset listed p.i = true := fun p hp => hall _ (mem_nodes_p hp)
      have h2 : chO cs (lset listed) (S0 st (pdKeys ps)).objs = chO cs (fun _ => true) (S0 st (pdKeys ps)).objs := by
        funext j; exact chO_congr fun c hc _ => hall _ (mem_nodes_c hc)
      simp only [SM]
      rw [pdSlot_congr (L := fun _ => true) h1, h2, pdObj_congr (L := fun _ => true) h1]
    rw [e2, Nat.zero_add]
    refine hT listed (fun i => ?_) hsz
    cases hi : inL ((nodes ps cs).map (·.1)) i with
    | true =>
      obtain ⟨p, hp, e⟩ := List.mem_map.1 (inL_iff.1 hi)
      rw [← e]; exact hall p hp
    | false =>
      cases hli : lset listed i with
      | false => rfl
      | true =>
        obtain ⟨p, hp, e⟩ := (hc i hli).1
        rw [inL_iff.2 (List.mem_map.2 ⟨p, hp, e⟩)] at hi; cases hi
  | succ n ih =>
    intro listed hn hsz hc a w hsim
    obtain ⟨m, ⟨p0, hp0, hp0l, rfl⟩, hmin⟩ : ∃ m, (∃ p ∈ nodes ps cs, lset listed p.1 = false ∧ p.1 = m) ∧ ∀ k, (∃ p ∈ nodes ps cs, lset listed p.1 = false ∧ p.1 = k) → m ≤ k := by
      have hne : ((nodes ps cs).filter fun p => !lset listed p.1) ≠ [] := fun e => by rw [e] at hn; cases hn
      obtain ⟨q, l, hql⟩ := List.exists_cons_of_ne_nil hne
      have hq := List.mem_filter.1 (show q ∈ (nodes ps cs).filter fun p => !lset listed p.1 by rw [hql]; simp)
      exact min_of q.1 ⟨q, hq.1, by simpa using hq.2, rfl⟩
    have unl : ∀ {j}, j < ops.size → lset listed j = false → listed.getD j true = false := fun {j} hj h => by
      have : j < listed.size := by rw [hsz]; exact hj
      simp [lset, this] at h ⊢; exact h
    have hpr : p0.1 ∈ Region.ready .any ops listed := by
      obtain ⟨o, ho⟩ := hok.has p0 hp0
      refine mem_ready.2 ⟨unl (Array.getElem?_eq_some_iff.1 ho).1 hp0l, o, ho, fun e he hb => ?_⟩
      obtain ⟨hlt, r, hr, hri⟩ := hok.aft p0 hp0 o ho e he hb
      cases hl : lset listed e.on with
      | true => exact hl
      | false => have := hmin e.on ⟨r, hr, by rw [hri]; exact hl, hri⟩; omega
    have next : ∀ q ∈ nodes ps cs, lset listed q.1 = false → q.1 ∈ Region.ready .any ops listed →
        ad cx ops (n + fuelT) (listed.setIfInBounds q.1 true) Q (SM st ps cs (lset (listed.setIfInBounds q.1 true))) := by
      intro q hq hql hqr
      obtain ⟨o, ho⟩ := hok.has q hq
      have hlt : q.1 < listed.size := by rw [hsz]; exact (Array.getElem?_eq_some_iff.1 ho).1
      have hset := lset_set (listed := listed) hlt
      refine ih _ ?_ (by simp [hsz]) fun i hi => ?_
      · have gen : ∀ l : List (Nat × List Nat), ndup (l.map (·.1)) = true → q ∈ l → (l.filter fun p => !lset (listed.setIfInBounds q.1 true) p.1).length + 1 = (l.filter fun p => !lset listed p.1).length := by
          intro l hl hm
          induction l with
          | nil => cases hm
          | cons r l ihl =>
            obtain ⟨l1, l2⟩ := ndup_head hl
            simp only [List.filter_cons]
            rcases List.mem_cons.1 hm with rfl | hm
            · rw [hset, if_pos rfl]
              simp only [Bool.not_true, Bool.false_eq_true, if_false, hql, Bool.not_false, if_true, List.length_cons]
              congr 2
              refine List.filter_congr fun x hx => ?_
              rw [hset, if_neg fun e => l1 (List.mem_map.2 ⟨x, hx, e⟩)]
            · have hne : r.1 ≠ q.1 := fun e => l1 (List.mem_map.2 ⟨q, hm, e.symm⟩)
              rw [hset, if_neg hne]
              cases hr : lset listed r.1 with
              | true => simpa using ihl l2 hm
              | false => simp only [Bool.not_false, if_true, List.length_cons]; rw [ihl l2 hm]
        have := gen (nodes ps cs) hok.ni hq
        omega
      · rw [hset] at hi
        by_cases e : i = q.1
        · subst e
          refine ⟨⟨q, hq, rfl⟩, fun j hj => ?_⟩
          obtain ⟨o', ho', e, he, hbe, hon⟩ := edge_iff.1 hj
          obtain ⟨_, o2, ho2, hall⟩ := mem_ready.1 hqr
          rw [ho2] at ho'; cases ho'
          rw [hset]
          split
          · rfl
          · rw [← hon]; exact hall e he hbe
        · rw [if_neg e] at hi
          obtain ⟨h1, h2⟩ := hc i hi
          refine ⟨h1, fun j hj => ?_⟩
          rw [hset]
          split
          · rfl
          · exact h2 j hj
    have hfuel : n + 1 + fuelT = (n + fuelT) + 1 := by omega
    rw [hfuel]
    obtain ⟨rs, h0, h1, E, hi, hr⟩ := hsim
    refine ⟨fun h => (by rw [h] at hpr; cases hpr), fun i hird => ?_⟩
    obtain ⟨hil, o, ho, hall⟩ := mem_ready.1 hird
    have hilt := (Array.getElem?_eq_some_iff.1 ho).1
    have hlist : ∀ j, edge ops i j = true → lset listed j = true := fun j hj => by
      obtain ⟨o', ho', e, he, hbe, hon⟩ := edge_iff.1 hj
      rw [ho] at ho'; cases ho'
      rw [← hon]; exact hall e he hbe
    obtain ⟨q, hq, rfl⟩ : ∃ n ∈ nodes ps cs, n.1 = i := by
      rcases hok.tail i hilt with h | h
      · exact h
      · have := hlist _ (h p0 hp0); rw [hp0l] at this; cases this
    have hql : lset listed q.1 = false := by
      have hlt : q.1 < listed.size := by rw [hsz]; exact hilt
      simp [hlt] at hil
      simp [lset, hlt, hil]
    have hlt : q.1 < listed.size := by rw [hsz]; exact hilt
    have hset := lset_set (listed := listed) hlt
    have hb := readyM_bef hok hc hq hird
    have hle : ∀ j, inL q.2 j = true → lset listed j = true := fun j hj => hb j (inL_iff.1 hj)
    have hslots : ∀ t, Rep E w (a.tmps.getD t undef) (pdSlot ps (inL q.2) (S0 st (pdKeys ps)).slots t) := fun t => by
      rcases pdSlot_le (ps := ps) (base := (S0 st (pdKeys ps)).slots) hle t with e | e
      · rw [e]; exact hr t
      · rw [e]; exact .any _
    have hnx := next q hq hql hird
    rcases nodes_cases hq with ⟨p, hp, rfl⟩ | ⟨c, hcm, rfl⟩
    · -- one that makes things
      obtain ⟨o2, ho2, hst⟩ := hs.get p hp
      simp only at ho
      rw [ho] at ho2; cases ho2
      have hdst := hok.dst p hp o ho
      refine (op1_wp ho).2 (hst rs E a w (SM st ps cs (lset listed)).objs _ _ hi (fun k o' h => pdObj_base (fun j o2 h2 => chV_le hle h2) (pdObj_le hle h)) hslots h1
        (fun k hk => ⟨pdObj_free hp hok.k hql hk, hvk k (by obtain ⟨o4, ho4⟩ := Option.isSome_iff_exists.1 hk; exact pdKeys_mem hp (objL_key ho4))⟩) ?_ ?_)
      · intro j o' ho'
        rcases pdObj_cases ho' with ⟨r, hr', hlr, hm⟩ | hbo
        · have hne : r.i ≠ p.i := fun e => by rw [e, hql] at hlr; cases hlr
          refine (hok.hit p hp r hr' hne ?_).2 _ hm
          cases hb2 : inL r.bef p.i with
          | false => rfl
          | true => have := closedM_bef hc hok r.i _ (mem_nodes_p hr') (Nat.le_refl _) hlr _ (inL_iff.1 hb2); rw [hql] at this; cases this
        · rcases chO_cases hbo with ⟨c, hcm, hlc, _, rfl⟩ | hbo
          · refine hok.chit p hp c hcm ?_
            cases hb2 : inL c.bef p.i with
            | false => rfl
            | true => have := closedM_bef hc hok c.i _ (mem_nodes_c hcm) (Nat.le_refl _) hlc _ (inL_iff.1 hb2); rw [hql] at this; cases this
          · simp only [S0] at hbo
            cases hk : inL (pdKeys ps) j with
            | true => rw [hk] at hbo; cases hbo
            | false =>
              rw [hk, cond_false] at hbo
              obtain ⟨o3, _, rfl⟩ := Option.map_eq_some_iff.1 hbo
              refine hitO_mono (fun k hk => ?_) (okill_hit o3)
              obtain ⟨o4, ho4⟩ := Option.isSome_iff_exists.1 hk
              exact inL_iff.2 (pdKeys_mem hp (objL_key ho4))
      · intro u w' E' hi' hrep hu
        rw [hdst]
        refine hnx _ _ ⟨rs, h0, by simp [Act.put, h1], E', ?_, fun t => ?_⟩
        · have e1 : chO cs (lset (listed.setIfInBounds p.i true)) (S0 st (pdKeys ps)).objs = chO cs (lset listed) (S0 st (pdKeys ps)).objs := by
            funext j; exact chO_congr fun c hcm _ => by rw [hset, if_neg fun e => hok.pc p hp c hcm e.symm]
          have : (SM st ps cs (lset (listed.setIfInBounds p.i true))).objs = overO (SM st ps cs (lset listed)).objs p.new := by
            simp only [SM]
            rw [e1]
            exact pdObj_new hp hok.k hok.i (by rw [hset, if_pos rfl]) fun j hj => by rw [hset, if_neg hj]
          rw [this]; exact hi'
        · simp only [Act.put, getD_put (by rw [h1]; exact hok.lt p hp)]
          by_cases ht : t = p.d
          · subst ht
            rw [if_pos rfl]
            have : (SM st ps cs (lset (listed.setIfInBounds p.i true))).slots p.d = p.r := by
              show pdSlot _ _ _ _ = _
              rw [pdSlot_at hp hok.d, hset, if_pos rfl]; rfl
            rw [this]; exact hu
          · rw [if_neg ht]
            have : (SM st ps cs (lset (listed.setIfInBounds p.i true))).slots t = (SM st ps cs (lset listed)).slots t := by
              refine pdSlot_rest fun q hq hqd => ?_
              rw [hset, if_neg fun e => ?_]
              have h2 := hok.dst q hq o (by rw [e]; exact ho)
              rw [hdst] at h2
              injection h2 with h2
              exact ht (by rw [← hqd, h2])
            rw [this]
            refine hrep _ _ (hr t) ?_
            show (pdSlot ps (lset listed) _ t).hit _ _ = false
            rcases pdSlot_cases (ps := ps) (L := lset listed) (base := (S0 st (pdKeys ps)).slots) t with ⟨q, hq, hlq, e⟩ | e | e
            · rw [e]
              refine (hok.hit p hp q hq (fun e => by rw [e, hql] at hlq; cases hlq) ?_).1
              cases hb2 : inL q.bef p.i with
              | false => rfl
              | true => have := closedM_bef hc hok q.i _ (mem_nodes_p hq) (Nat.le_refl _) hlq _ (inL_iff.1 hb2); rw [hql] at this; cases this
            · rw [e]; rfl
            · rw [e]
              refine hit_mono (K := inL (pdKeys ps)) (fun k hk => ?_) _ (kill_hit _)
              obtain ⟨o', ho'⟩ := Option.isSome_iff_exists.1 hk
              exact inL_iff.2 (pdKeys_mem hp (objL_key ho'))
    · -- one that changes an object
      obtain ⟨o2, ho2, hst⟩ := hsc.get c hcm
      simp only at ho
      rw [ho] at ho2; cases ho2
      have hdst := hok.cdst c hcm o ho
      refine (op1_wp ho).2 (hst rs E a w (SM st ps cs (lset listed)).objs _ _ hi (fun k o' h => ?_) hslots h1 ?_)
      · refine pdObj_base (fun j o2 h2 => ?_) (pdObj_le hle h)
        cases hb2 : Nat.beq j c.k with
        | false => rw [hb2, cond_false] at h2; exact chV_le hle h2
        | true =>
          rw [hb2, cond_true] at h2
          have e := beq_iff.1 hb2
          subst e
          rw [chO_at hcm hok.ck, hql, cond_false]; exact h2
      · intro w' E' hi' hrep
        rw [hdst]
        have hpne : ∀ p ∈ ps, lset (listed.setIfInBounds c.i true) p.i = lset listed p.i := fun p hp => by rw [hset, if_neg (hok.pc p hp c hcm)]
        refine hnx _ _ ⟨rs, h0, h1, E', ?_, fun t => ?_⟩
        · have : (SM st ps cs (lset (listed.setIfInBounds c.i true))).objs = fun j => bif Nat.beq j c.k then some c.o else (SM st ps cs (lset listed)).objs j := by
            funext j
            simp only [SM]
            rw [pdObj_congr hpne]
            cases hb2 : Nat.beq j c.k with
            | true =>
              have e := beq_iff.1 hb2
              subst e
              rw [pdObj_not (hok.kk c hcm), chO_at hcm hok.ck, hset, if_pos rfl]; rfl
            | false =>
              simp only [cond_false]
              refine pdObj_baseq (chO_congr fun d hd hdk => ?_)
              rw [hset, if_neg fun e => ?_]
              have e2 : d = c := ndup_inj hok.ci hd hcm e
              rw [← hdk, e2, beq_iff.2 rfl] at hb2; cases hb2
          rw [this]; exact hi'
        · have : (SM st ps cs (lset (listed.setIfInBounds c.i true))).slots t = (SM st ps cs (lset listed)).slots t := by
            show pdSlot _ _ _ _ = pdSlot _ _ _ _
            rw [pdSlot_congr hpne]
          rw [this]; exact hrep _ _ (hr t)
theorem chO_none {L : Nat → Bool} {b : Nat → Option O} (hL : ∀ i, L i = false) : chO cs L b = b := by
  funext j
  induction cs with
  | nil => rfl
  | cons c l ih => simp only [chO, hL, cond_false, ih]; cases Nat.beq j c.k <;> rfl
theorem stepC_store {V : State} {o : Oper} {X W : Operand} {t n k oo : Nat} {cl cl' : List A} {ax : A} (hg : o.guard = none) (ho : o.op = .store t X W) (hd : o.dst = none) (hsz : (cx.P.info? t).map (·.size) = some n)
    (hX : Ev V true X (.pt k oo)) (hV : Ev V true W ax) (hk : V.objs k = some (.var cl)) (hs : ax.solid = true) (h1 : ones ax.cells = true) (hn : ax.cells.length = n) (hfit : Nat.ble (oo + n) cl.length = true)
    (hc : putC cl oo ax.cells = cl') : StepC cx ops V o k (.var cl') := by
  intro rs E a w objs' K R hi hob hr _ hK
  obtain ⟨hus, hur, huo⟩ := rep_cells_one (hV rfl E w a hr) hs h1
  have hp := hX rfl E w a hr
  generalize hv : a.eval X = v at hp
  cases hp
  have hkk := hob _ _ hk
  have hob' := hi.obj _ _ hkk
  have hfit' : oo + n ≤ cl.length := Nat.le_of_ble_eq_true hfit
  cases hob' with
  | var _ c ty hh hcs hf hrr =>
  subst hc
  unfold op1
  rw [if_pos (wanted_none hg _)]
  have hE : ∀ (x : A) (u : Value), Rep E w u x → Rep (growE E k []) (w.setRow (E.bl k) (c.toList.take oo ++ (a.eval W).cells.toList ++ c.toList.drop (oo + n)).toArray) u x := fun x u hx =>
    upd_rep hi (by simp) hf (fun c' hc' => setRow_other _ _ _ _ hc') x u hx (hit_nil x)
  have hinv := upd_inv (w' := w.setRow (E.bl k) (c.toList.take oo ++ (a.eval W).cells.toList ++ c.toList.drop (oo + n)).toArray) (st := ⟨fun _ => .any, objs'⟩) (o := .var (putC cl oo ax.cells)) hi (ks := []) (by simp) hf (fun c' hc' => setRow_other _ _ _ _ hc') (by simp) rfl rfl rfl (by
    rw [okill_nil]
    refine .var _ _ ty (setRow_heap _ _ _ _ _ _ hh) (by simp [putC_length]; omega) (by show (growE E k []).fp k (E.bl k); simp [growE]; exact hf) fun j hj => ?_
    rw [putC_length] at hj
    have hn' : (a.eval W).cells.toList.length = n := by simp; omega
    have hget := seg_get c.toList (a.eval W).cells.toList oo j (by rw [hn']; simp; omega)
    rw [hn'] at hget
    rw [hget]
    have hput := putC_get ax.cells cl oo j hj
    rw [List.getElem?_eq_getElem (by rw [putC_length]; exact hj), hn] at hput
    by_cases hin : oo ≤ j ∧ j < oo + n
    · rw [if_pos hin] at hput ⊢
      have hja : j - oo < ax.cells.length := by omega
      rw [List.getElem?_eq_getElem hja, Option.some.injEq] at hput
      rw [hput]
      have := hE _ _ (hur _ hja)
      simpa [Array.getD_eq_getD_getElem?, List.getD_eq_getElem?_getD] using this
    · rw [if_neg hin] at hput ⊢
      rw [List.getElem?_eq_getElem hj, Option.some.injEq] at hput
      rw [hput]
      have := hE _ _ (hrr j hj)
      simpa using this)
  rw [upd_nil] at hinv
  refine wp_unit (run_storeOp ho hv hsz (hus.trans hn) hh (by omega) huo) ?_
  exact hK _ _ hinv fun x u hx => hE x u hx
def allM (ops : Array Oper) (ps : List PD) (cs : List CD) : Array Bool := ((List.range ops.size).map fun i => inL ((nodes ps cs).map (·.1)) i).toArray
theorem ad_mix (ps : List PD) (cs : List CD) {fuelT : Nat} (hs : StepsM cx ops st ps cs ps) (hsc : StepsC cx ops st ps cs cs) (hok : mixOk cx ops ps cs = true) (hvk : ∀ k ∈ pdKeys ps, cx.vk k = false)
    (hn : ps.length + cs.length + fuelT = ops.size) (hT : ad cx ops fuelT (allM ops ps cs) Q (SM st ps cs fun _ => true)) : ad cx ops ops.size (Array.replicate ops.size false) Q st := by
  intro a w hsim
  have hl : ∀ i, lset (Array.replicate ops.size false) i = false := fun i => by simp only [lset, Array.getD_eq_getD_getElem?, Array.getElem?_replicate]; split <;> rfl
  have h := mix_go (Q := Q) (fuelT := fuelT) (mixOk_spec hok) hvk hs hsc (fun listed h1 h2 => by
      have e : listed = allM ops ps cs := by
        apply Array.ext
        · simp [allM, h2]
        · intro i h3 h4
          have hg : listed[i] = lset listed i := by simp [lset, h3]
          rw [hg, h1]
          simp [allM]
      rw [e]; exact hT) (ps.length + cs.length) (Array.replicate ops.size false) (by
    rw [List.filter_eq_self.2 fun p _ => by simp [hl]]; simp [nodes]) (by simp) (fun i hi => by rw [hl] at hi; cases hi)
  rw [hn] at h
  refine h a w ?_
  obtain ⟨rs, h0, h1, E, hi, hr⟩ := s0_sim (K := pdKeys ps) hsim
  refine ⟨rs, h0, h1, E, ?_, fun t => ?_⟩
  · have : (SM st ps cs (lset (Array.replicate ops.size false))).objs = (S0 st (pdKeys ps)).objs := by
      funext j
      show pdObj ps _ (chO cs _ _) j = _
      rw [chO_none (b := (S0 st (pdKeys ps)).objs) hl]
      have gen : ∀ l : List PD, (∀ p ∈ l, p ∈ ps) → pdObj l (lset (Array.replicate ops.size false)) (S0 st (pdKeys ps)).objs j = (S0 st (pdKeys ps)).objs j := by
        intro l hl'
        induction l with
        | nil => rfl
        | cons q l ihl =>
          simp only [pdObj]
          cases hq : objL q.new j with
          | none => exact ihl fun p hp => hl' p (by simp [hp])
          | some o =>
            simp only [hl, cond_false, S0]
            rw [inL_iff.2 (pdKeys_mem (hl' q (by simp)) (objL_key hq))]; rfl
      exact gen ps fun _ h => h
    rw [this]; exact hi
  · show Rep E w _ (pdSlot ps _ _ t)
    rcases pdSlot_cases (ps := ps) (L := lset (Array.replicate ops.size false)) (base := (S0 st (pdKeys ps)).slots) t with ⟨q, hq, hlq, e⟩ | e | e
    · rw [hl] at hlq; cases hlq
    · rw [e]; exact .any _
    · rw [e]; exact hr t
end
end Go.AL
namespace Go.AL
theorem run_equalIn_slice {P : Program} {w : World} {t e : TypeId} (ht : P.underlying t = some (.slice e)) (n : Nat) (ad : Option Addr) (k cap : Nat) : (Op.equalIn (n + 1) t (.slice ad k cap) (.slice none 0 0)).run P w = .ok ad.isNone w := by
  cases ad <;> simp [Op.equalIn, run_underlying ht]
theorem run_eql_slice {P : Program} {w : World} {t e : TypeId} (ht : P.underlying t = some (.slice e)) (ad : Option Addr) (k cap : Nat) : (binOp .eql t (.slice ad k cap) (.slice none 0 0)).run P w = .ok (.bool ad.isNone) w := by
  have h : (Op.equal t (.slice ad k cap) (.slice none 0 0)).run P w = .ok ad.isNone w := run_equalIn_slice ht 9999 ad k cap
  simp only [binOp]
  simp [h]
section
variable {cx : Cx} {Q : Exit → State → Prop} {st : State} {ops : Array Oper} {rest : List Oper} {o : Oper}
theorem al_eqnil {d : Nat} {t ty e : TypeId} {X : Operand} {r : Option Nat} {es : Nat} {xs : List D} (hg : o.guard = none) (ho : o.op = .binOp .eql t X (.const (.slice none 0 0)) ty) (hd : o.dst = some d) (hdN : Nat.blt d cx.N = true)
    (ht : cx.P.underlying t = some (.slice e)) (hx : Ev st true X (.dat r (.sl es xs))) (h : ∀ b, (b = true → xs = []) → al cx ops Q rest (st.put d (.v (.bool b)))) : al cx ops Q (o :: rest) st := by
  intro a w hs
  refine wpListIn_plain hg fun K hK => ?_
  obtain ⟨rs, h0, h1, E, hi, hr⟩ := hs
  have hv := hx rfl E w a hr
  obtain ⟨b, hb, hrun⟩ : ∃ b : Bool, (b = true → xs = []) ∧ (execOp a.eval o).run cx.P w = .ok (.value (.bool b)) w := by
    have key : ∀ (ad : Option Addr) (n cap : Nat), a.eval X = .slice ad n cap → (execOp a.eval o).run cx.P w = .ok (.value (.bool ad.isNone)) w := by
      intro ad n cap e1
      have e2 : a.eval (.const (.slice none 0 0)) = .slice none 0 0 := rfl
      simp [execOp, ho, e1, e2, eqGuard, run_eql_slice ht]
    generalize hu : a.eval X = u at hv
    cases hv with
    | dat _ _ _ hro =>
      cases hro with
      | nil ad cap es => exact ⟨ad.isNone, fun _ => rfl, key _ _ _ hu⟩
      | sl b o cap es xs us hb hcap hes hc hr => exact ⟨false, fun e => (by cases e), key _ _ _ hu⟩
  refine wp_value hrun (hK _ _ ?_)
  rw [hd]
  refine h b hb _ _ ?_
  have hdN' : d < cx.N := Nat.blt_eq ▸ hdN
  refine ⟨rs, h0, by simp [Act.put, h1], E, hi, fun t => ?_⟩
  simp only [Act.put, getD_put (by rw [h1]; exact hdN'), State.put]
  by_cases ht : t = d
  · subst ht; simp; exact .v _ _ (.bool b)
  · rw [if_neg ht]
    have : Nat.beq t d = false := by cases hb : Nat.beq t d with | false => rfl | true => exact absurd (Nat.eq_of_beq_eq_true hb) ht
    simp only [this, cond_false]; exact hr t
theorem ev_func {g : Bool} {f : Nat} : Ev st g (.func f) (.clo f []) := fun _ _ _ _ _ => .clo f [] #[] rfl fun _ hj => absurd hj (Nat.not_lt_zero _)
theorem opP_andNot {g : Bool} {t ty : TypeId} {X Y : Operand} {k : IntKind} {x y : Int} (ho : o.op = .binOp .andNot t X Y ty) (hx : Ev st g X (.v (.int k x))) (hy : Ev st g Y (.v (.int k y))) :
    OpP cx st g o (.v (.int k (k.wrap (BitVec.ofInt k.bits x &&& ~~~(BitVec.ofInt k.bits y)).toNat))) := by
  intro hg E a w _ hs
  refine ⟨_, ?_, .v _ _ (.int _ _)⟩
  simp [execOp, ho, rep_int (hx hg E w a hs), rep_int (hy hg E w a hs), eqGuard, binOp, Op.intBits]
end
end Go.AL
namespace Go.AL
mutual
theorem hit_no {K L : Nat → Bool} (hK : ∀ k, K k = false) (hL : ∀ k, L k = false) : ∀ x : A, x.hit K L = false
  | .any | .v _ | .nil | .nilf | .nilp | .yld _ | .tok _ _ | .dat none _ | .pr none _ => rfl
  | .dat (some k) _ | .pr (some k) _ | .row k _ _ _ | .pe k _ _ _ => by simp only [A.hit, hK, hL, Bool.or_self]
  | .pt k _ => hK k
  | .prv cs | .clo _ cs | .st cs | .tup cs => hitL_no hK hL cs
  | .when _ a => hit_no hK hL a
theorem hitL_no {K L : Nat → Bool} (hK : ∀ k, K k = false) (hL : ∀ k, L k = false) : ∀ l : List A, hitL K L l = false
  | [] => rfl
  | a :: l => by simp only [hitL, hit_no hK hL a, hitL_no hK hL l, Bool.or_self]
end
theorem kill_no {K L : Nat → Bool} (hK : ∀ k, K k = false) (hL : ∀ k, L k = false) (x : A) : x.kill K L = x := by rw [A.kill_eq, hit_no hK hL]; rfl
inductive VwR : A → A → Prop
  | any (a : A) : VwR a .any
  | v (x : D) : VwR (.v x) (.v x)
  | vdat (x : D) : VwR (.v x) (.dat none x)
  | datn (x : D) : VwR (.dat none x) (.dat none x)
  | nil : VwR .nil .nil
  | nild (es : Nat) : VwR .nil (.dat none (.sl es []))
  | nilf : VwR .nilf .nilf
  | nilp : VwR .nilp .nilp
  | prn (cs : List D) : VwR (.pr none cs) (.pr none cs)
  | clo (f : Nat) (cs cs' : List A) (hl : cs.length = cs'.length) (hv : ∀ (j : Nat) (h1 : j < cs.length) (h2 : j < cs'.length), VwR cs[j] cs'[j]) : VwR (.clo f cs) (.clo f cs')
  | st (cs cs' : List A) (hl : cs.length = cs'.length) (hv : ∀ (j : Nat) (h1 : j < cs.length) (h2 : j < cs'.length), VwR cs[j] cs'[j]) : VwR (.st cs) (.st cs')
  | stD (cs : List A) (ds : List D) (hl : cs.length = ds.length) (hv : ∀ (j : Nat) (h1 : j < cs.length) (h2 : j < ds.length), VwR cs[j] (.dat none ds[j])) : VwR (.st cs) (.dat none (.agg ds))
inductive VwRL : List A → List A → Prop
  | nil : VwRL [] []
  | cons {a a' : A} {l l' : List A} (h : VwR a a') (t : VwRL l l') : VwRL (a :: l) (a' :: l')
inductive VwRD : List A → List D → Prop
  | nil : VwRD [] []
  | cons {a : A} {x : D} {l : List A} {l' : List D} (h : VwR a (.dat none x)) (t : VwRD l l') : VwRD (a :: l) (x :: l')
theorem VwRL.get {l l' : List A} (h : VwRL l l') : l.length = l'.length ∧ ∀ (j : Nat) (h1 : j < l.length) (h2 : j < l'.length), VwR l[j] l'[j] := by
  induction h with
  | nil => exact ⟨rfl, fun j h1 => absurd h1 (Nat.not_lt_zero _)⟩
  | cons h t ih =>
    refine ⟨by simp [ih.1], fun j h1 h2 => ?_⟩
    cases j with
    | zero => exact h
    | succ j => exact ih.2 j (by simpa using h1) (by simpa using h2)
theorem VwRD.get {l : List A} {l' : List D} (h : VwRD l l') : l.length = l'.length ∧ ∀ (j : Nat) (h1 : j < l.length) (h2 : j < l'.length), VwR l[j] (.dat none l'[j]) := by
  induction h with
  | nil => exact ⟨rfl, fun j h1 => absurd h1 (Nat.not_lt_zero _)⟩
  | cons h t ih =>
    refine ⟨by simp [ih.1], fun j h1 h2 => ?_⟩
    cases j with
    | zero => exact h
    | succ j => exact ih.2 j (by simpa using h1) (by simpa using h2)
theorem VwR.stDOf {cs : List A} {ds : List D} (h : VwRD cs ds) : VwR (.st cs) (.dat none (.agg ds)) := .stD cs ds h.get.1 h.get.2
theorem VwR.stOf {cs cs' : List A} (h : VwRL cs cs') : VwR (.st cs) (.st cs') := .st cs cs' h.get.1 h.get.2
theorem VwR.cloOf {f : Nat} {cs cs' : List A} (h : VwRL cs cs') : VwR (.clo f cs) (.clo f cs') := .clo f cs cs' h.get.1 h.get.2
def calleeER (E : Env) (w : World) (ρ : Nat → Nat) : Env := { calleeE E w [] ρ with R := E.R }
def calleeCxR (P : Program) (E : Env) (w : World) (ρ : Nat → Nat) : Cx := { calleeCx P E w [] ρ with R0 := E.R }
theorem Rep.viewR {E : Env} {w : World} {ρ : Nat → Nat} {a a' : A} (h : VwR a a') : ∀ u, Rep E w u a → Rep (calleeER E w ρ) w u a' := by
  induction h with
  | any a => exact fun u _ => .any u
  | v x => intro u h; cases h with | v _ _ h => exact .v _ _ h
  | vdat x => intro u h; cases h with | v _ _ h => exact .dat _ _ _ (h.mono (fun _ h => h.elim) fun _ _ => rfl)
  | datn x => intro u h; cases h with | dat _ _ _ h => exact .dat none _ _ h
  | nil => intro u h; cases h; exact .nil _
  | nild es => intro u h; cases h; exact .dat _ _ _ (.nil _ _ _)
  | nilf => intro u h; cases h; exact .nilf
  | nilp => intro u h; cases h; exact .nilp
  | prn cs => intro u h; cases h with | pr _ _ b o us hb hc hr => exact .pr none _ b o us hb hc hr
  | clo f cs cs' hl hv ih =>
    intro u h
    cases h with
    | clo _ _ vs hs hr => exact .clo f cs' vs (by omega) fun j hj => ih j (by omega) hj _ (hr j (by omega))
  | st cs cs' hl hv ih =>
    intro u h
    cases h with
    | st _ vs hs hr => exact .st cs' vs (by omega) fun j hj => ih j (by omega) hj _ (hr j (by omega))
  | stD cs ds hl hv ih =>
    intro u h
    cases h with
    | st _ vs hs hr =>
      refine .dat _ _ _ (.agg vs ds (by omega) fun j hj => ?_)
      exact rep_dat (ih j (by omega) hj _ (hr j (by omega)))
theorem callee_invR {cx : Cx} {E : Env} {objs : Nat → Option O} {w : World} {ρ : Nat → Nat} (hi : Inv cx E objs w) : Inv (calleeCxR cx.P E w ρ) (calleeER E w ρ) (objL []) w := by
  have h := callee_inv (pre := []) (ρ := ρ) hi (fun i o ho => by cases ho) (fun i j h => by simp [keyIn, objL] at h)
  refine ⟨fun i o ho => (by cases ho), h.dead, h.disj, h.own, fun b hb => ⟨Nat.lt_of_lt_of_le (hi.rd b hb).1 hi.size, fun ⟨i, hk, _⟩ => by simp [keyIn, objL] at hk⟩, h.frame, h.size, h.os, h.tape, h.output, rfl, h.tk0, h.bl0, h.nd, h.mks⟩
mutual
def A.impR (ρ : Nat → Nat) : A → A
  | .dat (some k) x => .dat (some (ρ k)) x
  | .pr (some k) cs => .pr (some (ρ k)) cs
  | .row k es lo n => .row (ρ k) es lo n
  | .pt k o => .pt (ρ k) o
  | .pe k es i o => .pe (ρ k) es i o
  | .prv _ | .tok _ _ => .any
  | .clo f cs => .clo f (impRL ρ cs)
  | .st cs => .st (impRL ρ cs)
  | .tup cs => .tup (impRL ρ cs)
  | .when g a => .when g (a.impR ρ)
  | .dat none x => .dat none x
  | .pr none cs => .pr none cs
  | a => a
def impRL (ρ : Nat → Nat) : List A → List A
  | [] => []
  | a :: l => a.impR ρ :: impRL ρ l
end
theorem impRL_length {ρ : Nat → Nat} : ∀ l : List A, (impRL ρ l).length = l.length
  | [] => rfl
  | a :: l => by simp [impRL, impRL_length l]
theorem impRL_get {ρ : Nat → Nat} : ∀ (l : List A) (j : Nat) (hj : j < l.length), (impRL ρ l)[j]'(by rw [impRL_length]; exact hj) = l[j].impR ρ
  | [], j, hj => absurd hj (Nat.not_lt_zero _)
  | a :: l, j, hj => by
    cases j with
    | zero => rfl
    | succ j => simpa [impRL] using impRL_get l j (by simpa using hj)
def O.impR (ρ : Nat → Nat) : O → O
  | .var cs => .var (impRL ρ cs)
  | .row es xs => .row es xs
  | .lp l r sl => .lp l r (sl.map fun p => (p.1, p.2.impR ρ))
mutual
theorem Rep.impR {E E' : Env} {w : World} {ρ : Nat → Nat} {T : Nat → Nat → A} {K : Nat → Bool} (hE : E.into E' ρ T K w) (hR : ∀ b, E.R b → E'.R b) : ∀ (a : A) (u : Value), a.within K = true → Rep E w u a → Rep E' w u (a.impR ρ)
  | .any, u, _, _ => .any u
  | .v x, u, _, h => by cases h with | v _ _ h => exact .v _ _ h
  | .dat none x, u, _, h => by simp only [A.impR]; cases h with | dat _ _ _ h => exact .dat none _ _ (h.mono hR fun _ _ => rfl)
  | .dat (some k) x, u, hk, h => by
    simp only [A.within] at hk
    simp only [A.impR]
    cases h with
    | dat _ _ _ h => exact .dat _ _ _ (h.mono (hE.reg hk) fun _ _ => rfl)
  | .nil, u, _, h => by cases h; exact .nil _
  | .row k es lo n, u, hk, h => by
    simp only [A.within] at hk
    simp only [A.impR]
    cases h with
    | row _ _ _ _ hr => rw [← hE.bl k hk, ← hE.cap k hk]; exact .row (ρ k) es lo n (by rw [hE.real k hk]; exact hr)
    | rownil _ _ a hr => exact .rownil (ρ k) es a (by rw [hE.real k hk]; exact hr)
  | .pt k o, u, hk, h => by simp only [A.within] at hk; simp only [A.impR]; cases h; rw [← hE.bl k hk]; exact .pt (ρ k) o
  | .pe k es i o, u, hk, h => by
    simp only [A.within] at hk
    simp only [A.impR]
    cases h with
    | pe _ _ _ _ hr => rw [← hE.bl k hk]; exact .pe (ρ k) es i o (by rw [hE.real k hk]; exact hr)
  | .pr none cs, u, _, h => by
    simp only [A.impR]
    cases h with
    | pr _ _ b o us hb hc hr => exact .pr none _ b o us (hR _ hb) hc fun j hj => (hr j hj).mono hR fun _ _ => rfl
  | .pr (some k) cs, u, hk, h => by
    simp only [A.within] at hk
    simp only [A.impR]
    cases h with
    | pr _ _ b o us hb hc hr => exact .pr _ _ b o us (hE.reg hk _ hb) hc fun j hj => (hr j hj).mono (hE.reg hk) fun _ _ => rfl
  | .prv cs, u, _, h => .any u
  | .clo f cs, u, hk, h => by
    simp only [A.within] at hk
    simp only [A.impR]
    cases h with
    | clo _ _ vs hs hr => exact .clo f _ vs (by rw [impRL_length]; exact hs) fun j hj => by rw [impRL_length] at hj; rw [impRL_get _ _ hj]; exact Rep.impRL hE hR cs j hj _ (withinL_get hk j hj) (hr j hj)
  | .nilf, u, _, h => by cases h; exact .nilf
  | .nilp, u, _, h => by cases h; exact .nilp
  | .yld l, u, _, h => by cases h; exact .yld l
  | .st cs, u, hk, h => by
    simp only [A.within] at hk
    simp only [A.impR]
    cases h with
    | st _ vs hs hr => exact .st _ vs (by rw [impRL_length]; exact hs) fun j hj => by rw [impRL_length] at hj; rw [impRL_get _ _ hj]; exact Rep.impRL hE hR cs j hj _ (withinL_get hk j hj) (hr j hj)
  | .tup cs, u, hk, h => by
    simp only [A.within] at hk
    simp only [A.impR]
    cases h with
    | tup _ vs hs hr => exact .tup _ vs (by rw [impRL_length]; exact hs) fun j hj => by rw [impRL_length] at hj; rw [impRL_get _ _ hj]; exact Rep.impRL hE hR cs j hj _ (withinL_get hk j hj) (hr j hj)
  | .when g a, u, hk, h => by
    simp only [A.within] at hk
    obtain ⟨h1, h2⟩ := rep_when h
    exact .when g _ u (fun hg => Rep.impR hE hR a u hk (h1 hg)) h2
  | .tok i j, u, _, h => .any u
theorem Rep.impRL {E E' : Env} {w : World} {ρ : Nat → Nat} {T : Nat → Nat → A} {K : Nat → Bool} (hE : E.into E' ρ T K w) (hR : ∀ b, E.R b → E'.R b) : ∀ (l : List A) (j : Nat) (hj : j < l.length) (u : Value), l[j].within K = true → Rep E w u l[j] → Rep E' w u (l[j].impR ρ)
  | [], j, hj, _ => absurd hj (Nat.not_lt_zero _)
  | a :: l, 0, _, u => Rep.impR hE hR a u
  | a :: l, j + 1, hj, u => Rep.impRL hE hR l j (by simpa using hj) u
end
theorem ObjRep.impR {E E' : Env} {w : World} {ρ : Nat → Nat} {T : Nat → Nat → A} {K : Nat → Bool} (hE : E.into E' ρ T K w) (hR : ∀ b, E.R b → E'.R b) {k : Nat} (hk : K k = true) {o : O} (ho : o.within K = true) (h : ObjRep E w k o) : ObjRep E' w (ρ k) (o.impR ρ) := by
  cases h with
  | var cs c ty hh hs hf hr =>
    simp only [O.within] at ho
    refine .var _ c ty (by rw [hE.bl k hk]; exact hh) (by rw [impRL_length]; exact hs) (by rw [hE.fp k hk, hE.bl k hk]; exact hf) fun j hj => ?_
    rw [impRL_length] at hj; rw [impRL_get _ _ hj]
    exact Rep.impR hE hR _ _ (withinL_get ho j hj) (hr j hj)
  | rownil es hr => exact .rownil es (by rw [hE.real k hk]; exact hr)
  | row es xs hr h => exact .row es xs (by rw [hE.real k hk]; exact hr) (by rw [hE.fp k hk, hE.bl k hk, hE.cap k hk]; exact h)
  | lp l r sl hb hf hh hr =>
    simp only [O.within] at ho
    refine .lp l r _ (by rw [hE.bl k hk]; exact hb) (by rw [hE.fp k hk]; exact hf) hh fun t => ?_
    have h2 := hr t
    rw [slotL_map (f := fun a => a.impR ρ) rfl]
    rcases slotL_mem (l := sl) (t := t) with e | ⟨p, hp, _, e⟩
    · rw [e]; exact .any _
    · rw [e] at h2 ⊢; exact Rep.impR hE hR _ _ (List.all_eq_true.1 ho p hp) h2
def setLR (objs : Nat → Option O) (ρ : Nat → Nat) : List (Nat × O) → Nat → Option O
  | [], j => objs j
  | (k, o) :: l, j => bif Nat.beq j (ρ k) then some (o.impR ρ) else setLR objs ρ l j
def afterR (st : State) (post : List (Nat × O)) (ρ : Nat → Nat) (res : A) (d : Nat) : State :=
  let s1 := st.kill (killK [] post ρ) noK
  { slots := fun t => bif Nat.beq t d then res.impR ρ else s1.slots t, objs := setLR s1.objs ρ post }
theorem setLR_cases {objs : Nat → Option O} {ρ : Nat → Nat} {T : Nat → Nat → A} : ∀ {l : List (Nat × O)} {k : Nat} {o : O}, setLR objs ρ l k = some o → (∃ i o', objL l i = some o' ∧ ρ i = k ∧ o = o'.impR ρ) ∨ setL objs ρ T l k = some o
  | [], k, o, h => .inr h
  | (k', o') :: l, k, o, h => by
    simp only [setLR] at h
    cases hb : Nat.beq k (ρ k') with
    | true =>
      rw [hb] at h; simp at h
      exact .inl ⟨k', o', by simp [objL], (beq_iff.1 hb).symm, h.symm⟩
    | false =>
      rw [hb] at h
      rcases setLR_cases (T := T) h with ⟨i, o2, h1, h2, h3⟩ | h1
      · by_cases hik : i = k'
        · subst hik; rw [beq_iff.2 h2.symm] at hb; cases hb
        · refine .inl ⟨i, o2, ?_, h2, h3⟩
          simp only [objL]
          rw [show Nat.beq i k' = false from by cases hb' : Nat.beq i k' with | false => rfl | true => exact absurd (beq_iff.1 hb') hik]; exact h1
      · refine .inr ?_
        simp only [setL, hb, cond_false]; exact h1
theorem setLR_none {objs : Nat → Option O} {ρ : Nat → Nat} {T : Nat → Nat → A} : ∀ {l : List (Nat × O)} {k : Nat}, setLR objs ρ l k = none → setL objs ρ T l k = none
  | [], k, h => h
  | (k', o') :: l, k, h => by
    simp only [setLR] at h
    simp only [setL]
    cases hb : Nat.beq k (ρ k') with
    | true => rw [hb] at h; simp at h
    | false => rw [hb] at h; exact setLR_none h
theorem after_simR {cx : Cx} {rs : List Nat} {E E1 : Env} {st : State} {w w' : World} {post : List (Nat × O)} {ρ : Nat → Nat} {res : A} {d : Nat} {a : Act} {v : Value} (hdN : d < cx.N)
    (h0 : a.defers = marks rs) (h1 : a.tmps.size = cx.N) (hi : Inv (cx.at rs) E st.objs w) (hr : ∀ t, Rep E w (a.tmps.getD t undef) (st.slots t)) (hinj : injOn ρ (post.map (·.1)) = true)
    (hwp : (post.all fun p => p.2.within (keyIn post)) = true) (hwr : res.within (keyIn post) = true) (hvk : ∀ p ∈ post, cx.vk (ρ p.1) = false)
    (hi1 : Inv (calleeCxR cx.P E w ρ) E1 (objL post) w') (hr1 : Rep E1 w' v res) : Sim cx (afterR st post ρ res d) (a.put (some d) v) w' := by
  let E1' : Env := { E1 with R := (calleeE E w [] ρ).R }
  have hR1 : ∀ b, E1.R b → E1'.R b := fun b hb => by
    have e : E1.R = E.R := hi1.R0
    rw [e] at hb
    exact ⟨Nat.lt_of_lt_of_le (hi.rd b hb).1 hi.size, fun i hk => by simp [keyIn, objL] at hk⟩
  have hoff : E1.off E1' noK noK := ⟨hR1, fun _ _ => rfl, fun _ _ _ => rfl, fun _ _ _ => rfl, fun _ _ _ => rfl, rfl⟩
  have hi1' : Inv (calleeCx (cx.at rs).P E w [] ρ) E1' (objL post) w' := by
    refine ⟨fun k o h => ?_, hi1.dead, hi1.disj, hi1.own, fun b hb => ⟨hb.1, fun ⟨i, hk, _⟩ => by simp [keyIn, objL] at hk⟩, hi1.frame, hi1.size, hi1.os, hi1.tape, hi1.output, rfl, hi1.tk0, hi1.bl0, .nil, fun b hb => by cases hb⟩
    have := (hi1.obj k o h).kill hoff rfl rfl
    rwa [ocalm_kill (K := noK) (L := noK) (fun _ h => h) (fun _ h => h) (by cases o with
      | var cs => simp only [O.calm, hitL_no (K := noK) (L := noK) (fun _ => rfl) (fun _ => rfl)]; rfl
      | row => rfl
      | lp l r sl => simp only [O.calm, hitL_no (K := noK) (L := noK) (fun _ => rfl) (fun _ => rfl)]; rfl)] at this
  obtain ⟨E2, h2, hrep, _, hinto, hR⟩ := after_env (cx := cx.at rs) (pre := []) (res := .any) (v := v) hi (fun i o ho => by cases ho) (by simpa using hinj) hwp rfl (fun p hp => .inr (hvk p hp)) hi1' (.any _)
  have hinto' : E1.into E2 ρ (fun i j => (tokA st.objs ρ i j).kill (killK [] post ρ) (lentK [] ρ)) (keyIn post) w' := ⟨hinto.bl, hinto.real, hinto.cap, hinto.fp, hinto.tk⟩
  have hR2 : ∀ b, E1.R b → E2.R b := fun b hb => by
    have e : E1.R = E.R := hi1.R0
    rw [hR, ← e]; exact hb
  refine ⟨rs, h0, by simp [Act.put, h1], E2, ⟨fun k o h => ?_, fun k h => h2.dead k (setLR_none h), h2.disj, h2.own, h2.rd, h2.frame, h2.size, h2.os, h2.tape, h2.output, h2.R0, h2.tk0, h2.bl0, h2.nd, h2.mks⟩, fun t => ?_⟩
  · rcases setLR_cases (T := fun i j => (tokA st.objs ρ i j).kill (killK [] post ρ) (lentK [] ρ)) h with ⟨i, o', h3, rfl, rfl⟩ | h3
    · exact ObjRep.impR hinto' hR2 (keyIn_of h3) (List.all_eq_true.1 hwp _ (objL_some h3)) (hi1.obj _ _ h3)
    · exact h2.obj k o h3
  · simp only [Act.put, getD_put (by rw [h1]; exact hdN), afterR]
    by_cases ht : t = d
    · subst ht
      simp
      exact Rep.impR hinto' hR2 _ _ hwr hr1
    · rw [if_neg ht]
      have : Nat.beq t d = false := by cases hb : Nat.beq t d with | false => rfl | true => exact absurd (Nat.eq_of_beq_eq_true hb) ht
      simp only [this, cond_false]
      exact hrep _ _ (hr t)
section
variable {cx : Cx} {Q : Exit → State → Prop} {st : State} {ops : Array Oper} {rest : List Oper} {o : Oper}
theorem al_callR {d f : Nat} {av cargs : List A} {post : List (Nat × O)} {res : A} (ρ : Nat → Nat) (hg : o.guard = none) (hd : o.dst = some d) (hdN : Nat.blt d cx.N = true) (hco : CallOf cx st true o f av)
    (hok : Ok cx.P f cargs [] res post) (hv : VwRL av cargs) (hinj : injOn ρ (post.map (·.1)) = true) (hwp : (post.all fun p => p.2.within (keyIn post)) = true) (hwr : res.within (keyIn post) = true)
    (hvk : ∀ p ∈ post, cx.vk (ρ p.1) = false) (h : al cx ops Q rest (afterR st post ρ res d)) : al cx ops Q (o :: rest) st := by
  intro a w hs
  refine wpListIn_plain hg fun K hK => ?_
  obtain ⟨rs, h0, h1, E, hi, hr⟩ := hs
  obtain ⟨vs, hrun, hlen, hrep⟩ := hco rfl E a w hr
  obtain ⟨hl, hvw⟩ := hv.get
  have hcall := hok.2 (calleeCxR cx.P E w ρ) (calleeER E w ρ) vs rfl rfl (fun _ => rfl) (callee_invR (cx := cx.at rs) hi) (by omega) (fun j hj => Rep.viewR (hvw j (by omega) hj) _ (hrep j (by omega)))
  refine ⟨fun _ _ => trivial, ?_⟩
  have hnd : ∀ c, o.op ≠ .defer c := by
    intro c hc
    have := hrun hok.1
    simp only [execOp, hc, Sem.run_bind] at this
    cases hr' : (resolve a.eval c o.type).run cx.P w with
    | ok d w1 => rw [hr'] at this; simp at this
    | halt e w1 => rw [hr'] at this; simp at this
  rw [Oper.semAt_eq _ _ _ hnd, hrun hok.1]
  refine ⟨fun h => by simp [fence] at h, fence_calls (hcall.mono ?_)⟩
  rintro e w' ⟨v, E1, rfl, hi1, hr1⟩
  refine hK _ _ ?_
  rw [hd]
  exact h _ _ (after_simR (Nat.blt_eq ▸ hdN) h0 h1 hi hr hinj hwp hwr hvk hi1 hr1)
end
end Go.AL
namespace Go.AL
open Go.Proofs
theorem lastI (op : Int) : (decide (op ≥ 29) && decide (op ≤ 32)) = isLastR op := by
  unfold isLastR
  rw [Bool.eq_iff_iff]
  simp only [Bool.and_eq_true, decide_eq_true_eq, Bool.or_eq_true, beq_iff_eq]
  omega
theorem vw_within {objs : Nat → Option O} {pre : List (Nat × O)} {ρ : Nat → Nat} {a a' : A} (h : Vw objs pre ρ a a') : a'.within (keyIn pre) = true := by
  have list : ∀ cs : List A, (∀ (j : Nat) (h2 : j < cs.length), cs[j].within (keyIn pre) = true) → withinL (keyIn pre) cs = true := by
    intro cs
    induction cs with
    | nil => exact fun _ => rfl
    | cons c l ih =>
      intro h
      simp only [withinL, Bool.and_eq_true]
      exact ⟨h 0 (by simp), ih fun j hj => by have := h (j + 1) (by simpa using hj); rw [List.getElem_cons_succ] at this; exact this⟩
  induction h with
  | rowL i es lo n h => exact h
  | ptL i o h => exact h
  | pt k o cs cs' hk h hl hne hv ih => exact list cs' fun j h2 => ih j (by omega) h2
  | prv cs cs' hl hv ih => exact list cs' fun j h2 => ih j (by omega) h2
  | clo f cs cs' hl hv ih => exact list cs' fun j h2 => ih j (by omega) h2
  | st cs cs' hl hv ih => exact list cs' fun j h2 => ih j (by omega) h2
  | tup cs cs' hl hv ih => exact list cs' fun j h2 => ih j (by omega) h2
  | when g a a' hg h ih => exact ih
  | _ => rfl
theorem within_vw {objs : Nat → Option O} {l l' : List A} (h : VwL objs [] id l l') : withinL (keyIn []) l' = true := by
  induction h with
  | nil => rfl
  | cons h t ih => simp only [withinL, vw_within h, ih, Bool.and_self]
theorem e158 : Enters Tryz.prog 158 := enters_of Tryz.func158 (by kernel_rfl) (by kernel_rfl)
set_option maxRecDepth 100000 in
set_option maxHeartbeats 4000000 in
theorem c158 (n : Int) : Ok Tryz.prog 158 [.v (.int .i64 n)] [] (.v (.bool (isW n))) [] := by
  refine ok_of e158 Tryz.func158 rfl (by kernel_rfl) ?_
  intro cx hP hro hN hvk
  obtain ⟨P, ro, w0, Bin, N, R0, tk0, bl0, vk⟩ := cx
  subst hP hro hN
  have hvkd := vkd_of hvk
  refine aw_seq ?_
  refine aw_region ?_
  refine al_op rfl rfl rfl (opP_assign rfl (ev_const rfl)) ?_
  refine al_nil ?_
  refine aw_seq ?_
  refine aw_region ?_
  refine al_op rfl rfl rfl (opP_move rfl (ev_tmp rfl)) ?_
  refine al_op rfl rfl rfl (opP_bin rfl (ev_tmp rfl) (ev_const rfl) rfl) ?_
  refine al_op rfl rfl rfl (opP_move rfl (ev_tmp rfl)) ?_
  refine al_opg rfl rfl rfl rfl rfl rfl (opP_move rfl (ev_tmp rfl)) ?_
  refine al_opg rfl rfl rfl rfl rfl rfl (opP_bin rfl (ev_when rfl id) (ev_const rfl) rfl) ?_
  refine al_op rfl rfl rfl (opP_and rfl (ev_tmp rfl) (ev_when rfl id)) ?_
  refine al_op rfl rfl rfl (opP_assign rfl (ev_tmp rfl)) ?_
  refine al_nil ?_
  refine aw_ret ?_
  exact ret_id _ (.tmp rfl .nil) rfl trivial rfl rfl
theorem e84 : Enters Tryz.prog 84 := enters_of Tryz.func84 (by kernel_rfl) (by kernel_rfl)
set_option maxRecDepth 100000 in
set_option maxHeartbeats 4000000 in
theorem c84 (n : Int) : Ok Tryz.prog 84 [.v (.int .i64 n)] [] (.v (.bool (isW n))) [] := by
  refine ok_of e84 Tryz.func84 rfl (by kernel_rfl) ?_
  intro cx hP hro hN hvk
  obtain ⟨P, ro, w0, Bin, N, R0, tk0, bl0, vk⟩ := cx
  subst hP hro hN
  have hvkd := vkd_of hvk
  refine aw_seq ?_
  refine aw_region ?_
  refine al_op rfl rfl rfl (opP_assign rfl (ev_const rfl)) ?_
  refine al_nil ?_
  refine aw_seq ?_
  refine aw_region ?_
  refine al_op rfl rfl rfl (opP_move rfl (ev_tmp rfl)) ?_
  refine al_op rfl rfl rfl (opP_bin rfl (ev_tmp rfl) (ev_const rfl) rfl) ?_
  refine al_op rfl rfl rfl (opP_move rfl (ev_tmp rfl)) ?_
  refine al_opg rfl rfl rfl rfl rfl rfl (opP_move rfl (ev_tmp rfl)) ?_
  refine al_opg rfl rfl rfl rfl rfl rfl (opP_bin rfl (ev_when rfl id) (ev_const rfl) rfl) ?_
  refine al_op rfl rfl rfl (opP_and rfl (ev_tmp rfl) (ev_when rfl id)) ?_
  refine al_op rfl rfl rfl (opP_assign rfl (ev_tmp rfl)) ?_
  refine al_nil ?_
  refine aw_ret ?_
  exact ret_id _ (.tmp rfl .nil) rfl trivial rfl rfl
theorem e157 : Enters Tryz.prog 157 := enters_of Tryz.func157 (by kernel_rfl) (by kernel_rfl)
set_option maxRecDepth 100000 in
set_option maxHeartbeats 4000000 in
theorem c157 (n : Int) : Ok Tryz.prog 157 [.v (.int .i64 n)] [] (.v (.bool (!(isW n)))) [] := by
  refine ok_of e157 Tryz.func157 rfl (by kernel_rfl) ?_
  intro cx hP hro hN hvk
  obtain ⟨P, ro, w0, Bin, N, R0, tk0, bl0, vk⟩ := cx
  subst hP hro hN
  have hvkd := vkd_of hvk
  refine aw_seq ?_
  refine aw_region ?_
  refine al_op rfl rfl rfl (opP_assign rfl (ev_const rfl)) ?_
  refine al_nil ?_
  refine aw_seq ?_
  refine aw_region ?_
  refine al_op rfl rfl rfl (opP_move rfl (ev_tmp rfl)) ?_
  refine al_call (id) rfl rfl rfl (callOf_func rfl (.cons (ev_tmp rfl) .nil)) (c158 n) (by repeat' (first | refine Vw.stDOf ?_ | refine Vw.ptOf rfl rfl rfl ?_ | refine Vw.prvOf ?_ | refine Vw.cloOf ?_ | constructor)) (fun _ h => absurd h (by simp)) rfl rfl rfl (fun _ h => absurd h (by simp)) ?_
  refine al_op rfl rfl rfl (opP_not rfl (ev_tmp rfl)) ?_
  refine al_op rfl rfl rfl (opP_assign rfl (ev_tmp rfl)) ?_
  refine al_nil ?_
  refine aw_ret ?_
  exact ret_id _ (.tmp rfl .nil) rfl trivial rfl rfl
theorem e159 : Enters Tryz.prog 159 := enters_of Tryz.func159 (by kernel_rfl) (by kernel_rfl)
set_option maxRecDepth 100000 in
set_option maxHeartbeats 4000000 in
theorem c159 (n : Int) : Ok Tryz.prog 159 [.v (.int .i64 n)] [] (.v (.bool (slotBad n))) [] := by
  refine ok_of e159 Tryz.func159 rfl (by kernel_rfl) ?_
  intro cx hP hro hN hvk
  obtain ⟨P, ro, w0, Bin, N, R0, tk0, bl0, vk⟩ := cx
  subst hP hro hN
  have hvkd := vkd_of hvk
  refine aw_seq ?_
  refine aw_region ?_
  refine al_op rfl rfl rfl (opP_assign rfl (ev_const rfl)) ?_
  refine al_nil ?_
  refine aw_seq ?_
  refine aw_region ?_
  refine al_op rfl rfl rfl (opP_move rfl (ev_tmp rfl)) ?_
  refine al_op rfl rfl rfl (opP_bin rfl (ev_tmp rfl) (ev_const rfl) rfl) ?_
  refine al_op rfl rfl rfl (opP_move rfl (ev_tmp rfl)) ?_
  refine al_opg rfl rfl rfl rfl rfl rfl (opP_move rfl (ev_tmp rfl)) ?_
  refine al_opg rfl rfl rfl rfl rfl rfl (opP_bin rfl (ev_when rfl id) (ev_const rfl) rfl) ?_
  refine al_op rfl rfl rfl (opP_or rfl (ev_tmp rfl) (ev_when rfl id)) ?_
  refine al_op rfl rfl rfl (opP_assign rfl (ev_tmp rfl)) ?_
  refine al_nil ?_
  refine aw_ret ?_
  exact ret_id _ (.tmp rfl .nil) rfl trivial rfl rfl
theorem e164 : Enters Tryz.prog 164 := enters_of Tryz.func164 (by kernel_rfl) (by kernel_rfl)
set_option maxRecDepth 100000 in
set_option maxHeartbeats 4000000 in
theorem c164 (op : Int) : Ok Tryz.prog 164 [.v (.int .i64 op)] [] (.v (.bool (isLastR op))) [] := by
  refine ok_of e164 Tryz.func164 rfl (by kernel_rfl) ?_
  intro cx hP hro hN hvk
  obtain ⟨P, ro, w0, Bin, N, R0, tk0, bl0, vk⟩ := cx
  subst hP hro hN
  have hvkd := vkd_of hvk
  refine aw_seq ?_
  refine aw_region ?_
  refine al_op rfl rfl rfl (opP_assign rfl (ev_const rfl)) ?_
  refine al_nil ?_
  refine aw_seq ?_
  refine aw_region ?_
  refine al_op rfl rfl rfl (opP_move rfl (ev_tmp rfl)) ?_
  refine al_op rfl rfl rfl (opP_bin rfl (ev_tmp rfl) (ev_const rfl) rfl) ?_
  refine al_op rfl rfl rfl (opP_move rfl (ev_tmp rfl)) ?_
  refine al_opg rfl rfl rfl rfl rfl rfl (opP_move rfl (ev_tmp rfl)) ?_
  refine al_opg rfl rfl rfl rfl rfl rfl (opP_bin rfl (ev_when rfl id) (ev_const rfl) rfl) ?_
  refine al_op rfl rfl rfl (opP_and rfl (ev_tmp rfl) (ev_when rfl id)) ?_
  refine al_op rfl rfl rfl (opP_assign rfl (ev_tmp rfl)) ?_
  refine al_nil ?_
  refine aw_ret ?_
  exact ret_id ([.v (.bool _)]) (.tmp rfl .nil) (congrArg (fun b => A.v (.bool b)) (lastI op)) (by first | exact trivial | exact ⟨rfl, trivial⟩ | exact ⟨rfl, rfl, trivial⟩ | exact ⟨rfl, rfl, rfl, trivial⟩ | exact ⟨rfl, rfl, rfl, rfl, trivial⟩) rfl rfl
theorem e169 : Enters Tryz.prog 169 := enters_of Tryz.func169 (by kernel_rfl) (by kernel_rfl)
set_option maxRecDepth 100000 in
set_option maxHeartbeats 4000000 in
theorem c169 (k : Int) : Ok Tryz.prog 169 [.v (.int .i64 k)] [] (.v (.bool (memR k))) [] := by
  refine ok_of e169 Tryz.func169 rfl (by kernel_rfl) ?_
  intro cx hP hro hN hvk
  obtain ⟨P, ro, w0, Bin, N, R0, tk0, bl0, vk⟩ := cx
  subst hP hro hN
  have hvkd := vkd_of hvk
  refine aw_seq ?_
  refine aw_region ?_
  refine al_op rfl rfl rfl (opP_assign rfl (ev_const rfl)) ?_
  refine al_nil ?_
  refine aw_seq ?_
  refine aw_region ?_
  refine al_op rfl rfl rfl (opP_move rfl (ev_tmp rfl)) ?_
  refine al_op rfl rfl rfl (opP_bin rfl (ev_tmp rfl) (ev_const rfl) rfl) ?_
  refine al_op rfl rfl rfl (opP_move rfl (ev_tmp rfl)) ?_
  refine al_opg rfl rfl rfl rfl rfl rfl (opP_move rfl (ev_tmp rfl)) ?_
  refine al_opg rfl rfl rfl rfl rfl rfl (opP_bin rfl (ev_when rfl id) (ev_const rfl) rfl) ?_
  refine al_op rfl rfl rfl (opP_or rfl (ev_tmp rfl) (ev_when rfl id)) ?_
  refine al_op rfl rfl rfl (opP_move rfl (ev_tmp rfl)) ?_
  refine al_opg rfl rfl rfl rfl rfl rfl (opP_move rfl (ev_tmp rfl)) ?_
  refine al_opg rfl rfl rfl rfl rfl rfl (opP_bin rfl (ev_when rfl id) (ev_const rfl) rfl) ?_
  refine al_op rfl rfl rfl (opP_or rfl (ev_tmp rfl) (ev_when rfl id)) ?_
  refine al_op rfl rfl rfl (opP_assign rfl (ev_tmp rfl)) ?_
  refine al_nil ?_
  refine aw_ret ?_
  exact ret_id _ (.tmp rfl .nil) rfl trivial rfl rfl
theorem e162 : Enters Tryz.prog 162 := enters_of Tryz.func162 (by kernel_rfl) (by kernel_rfl)
set_option maxRecDepth 100000 in
set_option maxHeartbeats 4000000 in
theorem c162 (op : Int) : Ok Tryz.prog 162 [.v (.int .i64 op)] [] (.v (.int .i64 (flagsR op))) [] := by
  refine ok_of e162 Tryz.func162 rfl (by kernel_rfl) ?_
  intro cx hP hro hN hvk
  obtain ⟨P, ro, w0, Bin, N, R0, tk0, bl0, vk⟩ := cx
  subst hP hro hN
  have hvkd := vkd_of hvk
  refine aw_seq ?_
  refine aw_region ?_
  refine al_op rfl rfl rfl (opP_assign rfl (ev_const rfl)) ?_
  refine al_nil ?_
  refine aw_seq ?_
  refine aw_seq ?_
  refine aw_region ?_
  refine al_op rfl rfl rfl (opP_move rfl (ev_tmp rfl)) ?_
  refine al_nil ?_
  refine aw_block ?_
  refine aw_seq ?_
  refine aw_seq ?_
  refine aw_region ?_
  refine al_op rfl rfl rfl (opP_bin rfl (ev_tmp rfl) (ev_const rfl) rfl) ?_
  refine al_op rfl rfl rfl (opP_assign rfl (ev_tmp rfl)) ?_
  refine al_nil ?_
  refine aw_cond rfl (fun h1 => ?_) (fun h1 => ?_)
  · refine aw_skip ?_
    refine aw_condT rfl h1 ?_
    refine aw_seq ?_
    refine aw_region ?_
    refine al_op rfl rfl rfl (opP_assign rfl (ev_const rfl)) ?_
    refine al_nil ?_
    refine aw_ret ?_
    exact ret_id ([.v (.int .i64 _)]) (.tmp rfl .nil) (congrArg (fun b => A.v (.int .i64 b)) (by simp [flagsR, *])) (by first | exact trivial | exact ⟨rfl, trivial⟩ | exact ⟨rfl, rfl, trivial⟩ | exact ⟨rfl, rfl, rfl, trivial⟩ | exact ⟨rfl, rfl, rfl, rfl, trivial⟩) rfl rfl
  refine aw_seq ?_
  refine aw_region ?_
  refine al_op rfl rfl rfl (opP_bin rfl (ev_tmp rfl) (ev_const rfl) rfl) ?_
  refine al_op rfl rfl rfl (opP_assign rfl (ev_tmp rfl)) ?_
  refine al_nil ?_
  refine aw_cond rfl (fun h2 => ?_) (fun h2 => ?_)
  · refine aw_skip ?_
    refine aw_condT rfl h2 ?_
    refine aw_seq ?_
    refine aw_region ?_
    refine al_op rfl rfl rfl (opP_assign rfl (ev_const rfl)) ?_
    refine al_nil ?_
    refine aw_ret ?_
    exact ret_id ([.v (.int .i64 _)]) (.tmp rfl .nil) (congrArg (fun b => A.v (.int .i64 b)) (by simp [flagsR, *])) (by first | exact trivial | exact ⟨rfl, trivial⟩ | exact ⟨rfl, rfl, trivial⟩ | exact ⟨rfl, rfl, rfl, trivial⟩ | exact ⟨rfl, rfl, rfl, rfl, trivial⟩) rfl rfl
  refine aw_seq ?_
  refine aw_region ?_
  refine al_op rfl rfl rfl (opP_bin rfl (ev_tmp rfl) (ev_const rfl) rfl) ?_
  refine al_op rfl rfl rfl (opP_assign rfl (ev_tmp rfl)) ?_
  refine al_nil ?_
  refine aw_cond rfl (fun h3 => ?_) (fun h3 => ?_)
  · refine aw_skip ?_
    refine aw_condT rfl h3 ?_
    refine aw_seq ?_
    refine aw_region ?_
    refine al_op rfl rfl rfl (opP_assign rfl (ev_const rfl)) ?_
    refine al_nil ?_
    refine aw_ret ?_
    exact ret_id ([.v (.int .i64 _)]) (.tmp rfl .nil) (congrArg (fun b => A.v (.int .i64 b)) (by simp [flagsR, *])) (by first | exact trivial | exact ⟨rfl, trivial⟩ | exact ⟨rfl, rfl, trivial⟩ | exact ⟨rfl, rfl, rfl, trivial⟩ | exact ⟨rfl, rfl, rfl, rfl, trivial⟩) rfl rfl
  refine aw_region ?_
  refine al_op rfl rfl rfl (opP_bin rfl (ev_tmp rfl) (ev_const rfl) rfl) ?_
  refine al_op rfl rfl rfl (opP_assign rfl (ev_tmp rfl)) ?_
  refine al_nil ?_
  refine aw_cond rfl (fun h4 => ?_) (fun h4 => ?_)
  · refine aw_seq ?_
    refine aw_region ?_
    refine al_op rfl rfl rfl (opP_assign rfl (ev_const rfl)) ?_
    refine al_nil ?_
    refine aw_ret ?_
    exact ret_id ([.v (.int .i64 _)]) (.tmp rfl .nil) (congrArg (fun b => A.v (.int .i64 b)) (by simp [flagsR, *])) (by first | exact trivial | exact ⟨rfl, trivial⟩ | exact ⟨rfl, rfl, trivial⟩ | exact ⟨rfl, rfl, rfl, trivial⟩ | exact ⟨rfl, rfl, rfl, rfl, trivial⟩) rfl rfl
  refine aw_seq ?_
  refine aw_seq ?_
  refine aw_region ?_
  refine al_op rfl rfl rfl (opP_bin rfl (ev_tmp rfl) (ev_const rfl) rfl) ?_
  refine al_op rfl rfl rfl (opP_assign rfl (ev_tmp rfl)) ?_
  refine al_nil ?_
  refine aw_cond rfl (fun h5 => ?_) (fun h5 => ?_)
  · refine aw_skip ?_
    refine aw_condT rfl h5 ?_
    refine aw_seq ?_
    refine aw_region ?_
    refine al_op rfl rfl rfl (opP_assign rfl (ev_const rfl)) ?_
    refine al_nil ?_
    refine aw_ret ?_
    exact ret_id ([.v (.int .i64 _)]) (.tmp rfl .nil) (congrArg (fun b => A.v (.int .i64 b)) (by simp [flagsR, *])) (by first | exact trivial | exact ⟨rfl, trivial⟩ | exact ⟨rfl, rfl, trivial⟩ | exact ⟨rfl, rfl, rfl, trivial⟩ | exact ⟨rfl, rfl, rfl, rfl, trivial⟩) rfl rfl
  refine aw_seq ?_
  refine aw_region ?_
  refine al_op rfl rfl rfl (opP_bin rfl (ev_tmp rfl) (ev_const rfl) rfl) ?_
  refine al_op rfl rfl rfl (opP_assign rfl (ev_tmp rfl)) ?_
  refine al_nil ?_
  refine aw_cond rfl (fun h6 => ?_) (fun h6 => ?_)
  · refine aw_skip ?_
    refine aw_condT rfl h6 ?_
    refine aw_seq ?_
    refine aw_region ?_
    refine al_op rfl rfl rfl (opP_assign rfl (ev_const rfl)) ?_
    refine al_nil ?_
    refine aw_ret ?_
    exact ret_id ([.v (.int .i64 _)]) (.tmp rfl .nil) (congrArg (fun b => A.v (.int .i64 b)) (by simp [flagsR, *])) (by first | exact trivial | exact ⟨rfl, trivial⟩ | exact ⟨rfl, rfl, trivial⟩ | exact ⟨rfl, rfl, rfl, trivial⟩ | exact ⟨rfl, rfl, rfl, rfl, trivial⟩) rfl rfl
  refine aw_seq ?_
  refine aw_region ?_
  refine al_op rfl rfl rfl (opP_bin rfl (ev_tmp rfl) (ev_const rfl) rfl) ?_
  refine al_op rfl rfl rfl (opP_assign rfl (ev_tmp rfl)) ?_
  refine al_nil ?_
  refine aw_cond rfl (fun h7 => ?_) (fun h7 => ?_)
  · refine aw_skip ?_
    refine aw_condT rfl h7 ?_
    refine aw_seq ?_
    refine aw_region ?_
    refine al_op rfl rfl rfl (opP_assign rfl (ev_const rfl)) ?_
    refine al_nil ?_
    refine aw_ret ?_
    exact ret_id ([.v (.int .i64 _)]) (.tmp rfl .nil) (congrArg (fun b => A.v (.int .i64 b)) (by simp [flagsR, *])) (by first | exact trivial | exact ⟨rfl, trivial⟩ | exact ⟨rfl, rfl, trivial⟩ | exact ⟨rfl, rfl, rfl, trivial⟩ | exact ⟨rfl, rfl, rfl, rfl, trivial⟩) rfl rfl
  refine aw_region ?_
  refine al_op rfl rfl rfl (opP_bin rfl (ev_tmp rfl) (ev_const rfl) rfl) ?_
  refine al_op rfl rfl rfl (opP_assign rfl (ev_tmp rfl)) ?_
  refine al_nil ?_
  refine aw_cond rfl (fun h8 => ?_) (fun h8 => ?_)
  · refine aw_seq ?_
    refine aw_region ?_
    refine al_op rfl rfl rfl (opP_assign rfl (ev_const rfl)) ?_
    refine al_nil ?_
    refine aw_ret ?_
    exact ret_id ([.v (.int .i64 _)]) (.tmp rfl .nil) (congrArg (fun b => A.v (.int .i64 b)) (by simp [flagsR, *])) (by first | exact trivial | exact ⟨rfl, trivial⟩ | exact ⟨rfl, rfl, trivial⟩ | exact ⟨rfl, rfl, rfl, trivial⟩ | exact ⟨rfl, rfl, rfl, rfl, trivial⟩) rfl rfl
  refine aw_seq ?_
  refine aw_region ?_
  refine al_op rfl rfl rfl (opP_bin rfl (ev_tmp rfl) (ev_const rfl) rfl) ?_
  refine al_op rfl rfl rfl (opP_assign rfl (ev_tmp rfl)) ?_
  refine al_nil ?_
  refine aw_cond rfl (fun h9 => ?_) (fun h9 => ?_)
  · refine aw_seq ?_
    refine aw_region ?_
    refine al_op rfl rfl rfl (opP_assign rfl (ev_const rfl)) ?_
    refine al_nil ?_
    refine aw_ret ?_
    exact ret_id ([.v (.int .i64 _)]) (.tmp rfl .nil) (congrArg (fun b => A.v (.int .i64 b)) (by simp [flagsR, *])) (by first | exact trivial | exact ⟨rfl, trivial⟩ | exact ⟨rfl, rfl, trivial⟩ | exact ⟨rfl, rfl, rfl, trivial⟩ | exact ⟨rfl, rfl, rfl, rfl, trivial⟩) rfl rfl
  refine aw_skip ?_
  refine aw_seq ?_
  refine aw_region ?_
  refine al_op rfl rfl rfl (opP_assign rfl (ev_const rfl)) ?_
  refine al_nil ?_
  refine aw_ret ?_
  exact ret_id ([.v (.int .i64 _)]) (.tmp rfl .nil) (congrArg (fun b => A.v (.int .i64 b)) (by simp [flagsR, *])) (by first | exact trivial | exact ⟨rfl, trivial⟩ | exact ⟨rfl, rfl, trivial⟩ | exact ⟨rfl, rfl, rfl, trivial⟩ | exact ⟨rfl, rfl, rfl, rfl, trivial⟩) rfl rfl
theorem e168 : Enters Tryz.prog 168 := enters_of Tryz.func168 (by kernel_rfl) (by kernel_rfl)
set_option maxRecDepth 100000 in
set_option maxHeartbeats 4000000 in
theorem c168 (op : Int) : Ok Tryz.prog 168 [.v (.int .i64 op)] [] (.v (.int .i64 (classR op))) [] := by
  refine ok_of e168 Tryz.func168 rfl (by kernel_rfl) ?_
  intro cx hP hro hN hvk
  obtain ⟨P, ro, w0, Bin, N, R0, tk0, bl0, vk⟩ := cx
  subst hP hro hN
  have hvkd := vkd_of hvk
  refine aw_seq ?_
  refine aw_region ?_
  refine al_op rfl rfl rfl (opP_assign rfl (ev_const rfl)) ?_
  refine al_nil ?_
  refine aw_seq ?_
  refine aw_seq ?_
  refine aw_region ?_
  refine al_op rfl rfl rfl (opP_move rfl (ev_tmp rfl)) ?_
  refine al_nil ?_
  refine aw_block ?_
  refine aw_seq ?_
  refine aw_region ?_
  refine al_op rfl rfl rfl (opP_bin rfl (ev_tmp rfl) (ev_const rfl) rfl) ?_
  refine al_op rfl rfl rfl (opP_assign rfl (ev_tmp rfl)) ?_
  refine al_nil ?_
  refine aw_cond rfl (fun h1 => ?_) (fun h1 => ?_)
  · refine aw_seq ?_
    refine aw_region ?_
    refine al_op rfl rfl rfl (opP_assign rfl (ev_const rfl)) ?_
    refine al_nil ?_
    refine aw_ret ?_
    exact ret_id ([.v (.int .i64 _)]) (.tmp rfl .nil) (congrArg (fun b => A.v (.int .i64 b)) (by first | (simp [classR, *]; done) | (have hh := h22; simp at hh; simp [classR, *]; done) | (have hh := h22; simp at hh; simp [classR, *]; omega))) (by first | exact trivial | exact ⟨rfl, trivial⟩ | exact ⟨rfl, rfl, trivial⟩ | exact ⟨rfl, rfl, rfl, trivial⟩ | exact ⟨rfl, rfl, rfl, rfl, trivial⟩) rfl rfl
  refine aw_seq ?_
  refine aw_region ?_
  refine al_op rfl rfl rfl (opP_bin rfl (ev_tmp rfl) (ev_const rfl) rfl) ?_
  refine al_op rfl rfl rfl (opP_assign rfl (ev_tmp rfl)) ?_
  refine al_nil ?_
  refine aw_cond rfl (fun h2 => ?_) (fun h2 => ?_)
  · refine aw_seq ?_
    refine aw_region ?_
    refine al_op rfl rfl rfl (opP_assign rfl (ev_const rfl)) ?_
    refine al_nil ?_
    refine aw_ret ?_
    exact ret_id ([.v (.int .i64 _)]) (.tmp rfl .nil) (congrArg (fun b => A.v (.int .i64 b)) (by first | (simp [classR, *]; done) | (have hh := h22; simp at hh; simp [classR, *]; done) | (have hh := h22; simp at hh; simp [classR, *]; omega))) (by first | exact trivial | exact ⟨rfl, trivial⟩ | exact ⟨rfl, rfl, trivial⟩ | exact ⟨rfl, rfl, rfl, trivial⟩ | exact ⟨rfl, rfl, rfl, rfl, trivial⟩) rfl rfl
  refine aw_seq ?_
  refine aw_region ?_
  refine al_op rfl rfl rfl (opP_bin rfl (ev_tmp rfl) (ev_const rfl) rfl) ?_
  refine al_op rfl rfl rfl (opP_assign rfl (ev_tmp rfl)) ?_
  refine al_nil ?_
  refine aw_cond rfl (fun h3 => ?_) (fun h3 => ?_)
  · refine aw_seq ?_
    refine aw_region ?_
    refine al_op rfl rfl rfl (opP_assign rfl (ev_const rfl)) ?_
    refine al_nil ?_
    refine aw_ret ?_
    exact ret_id ([.v (.int .i64 _)]) (.tmp rfl .nil) (congrArg (fun b => A.v (.int .i64 b)) (by first | (simp [classR, *]; done) | (have hh := h22; simp at hh; simp [classR, *]; done) | (have hh := h22; simp at hh; simp [classR, *]; omega))) (by first | exact trivial | exact ⟨rfl, trivial⟩ | exact ⟨rfl, rfl, trivial⟩ | exact ⟨rfl, rfl, rfl, trivial⟩ | exact ⟨rfl, rfl, rfl, rfl, trivial⟩) rfl rfl
  refine aw_seq ?_
  refine aw_seq ?_
  refine aw_region ?_
  refine al_op rfl rfl rfl (opP_bin rfl (ev_tmp rfl) (ev_const rfl) rfl) ?_
  refine al_op rfl rfl rfl (opP_assign rfl (ev_tmp rfl)) ?_
  refine al_nil ?_
  refine aw_cond rfl (fun h4 => ?_) (fun h4 => ?_)
  · refine aw_skip ?_
    refine aw_condT rfl h4 ?_
    refine aw_seq ?_
    refine aw_region ?_
    refine al_op rfl rfl rfl (opP_assign rfl (ev_const rfl)) ?_
    refine al_nil ?_
    refine aw_ret ?_
    exact ret_id ([.v (.int .i64 _)]) (.tmp rfl .nil) (congrArg (fun b => A.v (.int .i64 b)) (by first | (simp [classR, *]; done) | (have hh := h22; simp at hh; simp [classR, *]; done) | (have hh := h22; simp at hh; simp [classR, *]; omega))) (by first | exact trivial | exact ⟨rfl, trivial⟩ | exact ⟨rfl, rfl, trivial⟩ | exact ⟨rfl, rfl, rfl, trivial⟩ | exact ⟨rfl, rfl, rfl, rfl, trivial⟩) rfl rfl
  refine aw_region ?_
  refine al_op rfl rfl rfl (opP_bin rfl (ev_tmp rfl) (ev_const rfl) rfl) ?_
  refine al_op rfl rfl rfl (opP_assign rfl (ev_tmp rfl)) ?_
  refine al_nil ?_
  refine aw_cond rfl (fun h5 => ?_) (fun h5 => ?_)
  · refine aw_seq ?_
    refine aw_region ?_
    refine al_op rfl rfl rfl (opP_assign rfl (ev_const rfl)) ?_
    refine al_nil ?_
    refine aw_ret ?_
    exact ret_id ([.v (.int .i64 _)]) (.tmp rfl .nil) (congrArg (fun b => A.v (.int .i64 b)) (by first | (simp [classR, *]; done) | (have hh := h22; simp at hh; simp [classR, *]; done) | (have hh := h22; simp at hh; simp [classR, *]; omega))) (by first | exact trivial | exact ⟨rfl, trivial⟩ | exact ⟨rfl, rfl, trivial⟩ | exact ⟨rfl, rfl, rfl, trivial⟩ | exact ⟨rfl, rfl, rfl, rfl, trivial⟩) rfl rfl
  refine aw_seq ?_
  refine aw_region ?_
  refine al_op rfl rfl rfl (opP_bin rfl (ev_tmp rfl) (ev_const rfl) rfl) ?_
  refine al_op rfl rfl rfl (opP_assign rfl (ev_tmp rfl)) ?_
  refine al_nil ?_
  refine aw_cond rfl (fun h6 => ?_) (fun h6 => ?_)
  · refine aw_seq ?_
    refine aw_region ?_
    refine al_op rfl rfl rfl (opP_assign rfl (ev_const rfl)) ?_
    refine al_nil ?_
    refine aw_ret ?_
    exact ret_id ([.v (.int .i64 _)]) (.tmp rfl .nil) (congrArg (fun b => A.v (.int .i64 b)) (by first | (simp [classR, *]; done) | (have hh := h22; simp at hh; simp [classR, *]; done) | (have hh := h22; simp at hh; simp [classR, *]; omega))) (by first | exact trivial | exact ⟨rfl, trivial⟩ | exact ⟨rfl, rfl, trivial⟩ | exact ⟨rfl, rfl, rfl, trivial⟩ | exact ⟨rfl, rfl, rfl, rfl, trivial⟩) rfl rfl
  refine aw_seq ?_
  refine aw_seq ?_
  refine aw_region ?_
  refine al_op rfl rfl rfl (opP_bin rfl (ev_tmp rfl) (ev_const rfl) rfl) ?_
  refine al_op rfl rfl rfl (opP_assign rfl (ev_tmp rfl)) ?_
  refine al_nil ?_
  refine aw_cond rfl (fun h7 => ?_) (fun h7 => ?_)
  · refine aw_skip ?_
    refine aw_condT rfl h7 ?_
    refine aw_seq ?_
    refine aw_region ?_
    refine al_op rfl rfl rfl (opP_assign rfl (ev_const rfl)) ?_
    refine al_nil ?_
    refine aw_ret ?_
    exact ret_id ([.v (.int .i64 _)]) (.tmp rfl .nil) (congrArg (fun b => A.v (.int .i64 b)) (by first | (simp [classR, *]; done) | (have hh := h22; simp at hh; simp [classR, *]; done) | (have hh := h22; simp at hh; simp [classR, *]; omega))) (by first | exact trivial | exact ⟨rfl, trivial⟩ | exact ⟨rfl, rfl, trivial⟩ | exact ⟨rfl, rfl, rfl, trivial⟩ | exact ⟨rfl, rfl, rfl, rfl, trivial⟩) rfl rfl
  refine aw_region ?_
  refine al_op rfl rfl rfl (opP_bin rfl (ev_tmp rfl) (ev_const rfl) rfl) ?_
  refine al_op rfl rfl rfl (opP_assign rfl (ev_tmp rfl)) ?_
  refine al_nil ?_
  refine aw_cond rfl (fun h8 => ?_) (fun h8 => ?_)
  · refine aw_seq ?_
    refine aw_region ?_
    refine al_op rfl rfl rfl (opP_assign rfl (ev_const rfl)) ?_
    refine al_nil ?_
    refine aw_ret ?_
    exact ret_id ([.v (.int .i64 _)]) (.tmp rfl .nil) (congrArg (fun b => A.v (.int .i64 b)) (by first | (simp [classR, *]; done) | (have hh := h22; simp at hh; simp [classR, *]; done) | (have hh := h22; simp at hh; simp [classR, *]; omega))) (by first | exact trivial | exact ⟨rfl, trivial⟩ | exact ⟨rfl, rfl, trivial⟩ | exact ⟨rfl, rfl, rfl, trivial⟩ | exact ⟨rfl, rfl, rfl, rfl, trivial⟩) rfl rfl
  refine aw_seq ?_
  refine aw_region ?_
  refine al_op rfl rfl rfl (opP_bin rfl (ev_tmp rfl) (ev_const rfl) rfl) ?_
  refine al_op rfl rfl rfl (opP_assign rfl (ev_tmp rfl)) ?_
  refine al_nil ?_
  refine aw_cond rfl (fun h9 => ?_) (fun h9 => ?_)
  · refine aw_seq ?_
    refine aw_region ?_
    refine al_op rfl rfl rfl (opP_assign rfl (ev_const rfl)) ?_
    refine al_nil ?_
    refine aw_ret ?_
    exact ret_id ([.v (.int .i64 _)]) (.tmp rfl .nil) (congrArg (fun b => A.v (.int .i64 b)) (by first | (simp [classR, *]; done) | (have hh := h22; simp at hh; simp [classR, *]; done) | (have hh := h22; simp at hh; simp [classR, *]; omega))) (by first | exact trivial | exact ⟨rfl, trivial⟩ | exact ⟨rfl, rfl, trivial⟩ | exact ⟨rfl, rfl, rfl, trivial⟩ | exact ⟨rfl, rfl, rfl, rfl, trivial⟩) rfl rfl
  refine aw_seq ?_
  refine aw_seq ?_
  refine aw_region ?_
  refine al_op rfl rfl rfl (opP_bin rfl (ev_tmp rfl) (ev_const rfl) rfl) ?_
  refine al_op rfl rfl rfl (opP_assign rfl (ev_tmp rfl)) ?_
  refine al_nil ?_
  refine aw_cond rfl (fun h10 => ?_) (fun h10 => ?_)
  · refine aw_skip ?_
    refine aw_condT rfl h10 ?_
    refine aw_seq ?_
    refine aw_region ?_
    refine al_op rfl rfl rfl (opP_assign rfl (ev_const rfl)) ?_
    refine al_nil ?_
    refine aw_ret ?_
    exact ret_id ([.v (.int .i64 _)]) (.tmp rfl .nil) (congrArg (fun b => A.v (.int .i64 b)) (by first | (simp [classR, *]; done) | (have hh := h22; simp at hh; simp [classR, *]; done) | (have hh := h22; simp at hh; simp [classR, *]; omega))) (by first | exact trivial | exact ⟨rfl, trivial⟩ | exact ⟨rfl, rfl, trivial⟩ | exact ⟨rfl, rfl, rfl, trivial⟩ | exact ⟨rfl, rfl, rfl, rfl, trivial⟩) rfl rfl
  refine aw_region ?_
  refine al_op rfl rfl rfl (opP_bin rfl (ev_tmp rfl) (ev_const rfl) rfl) ?_
  refine al_op rfl rfl rfl (opP_assign rfl (ev_tmp rfl)) ?_
  refine al_nil ?_
  refine aw_cond rfl (fun h11 => ?_) (fun h11 => ?_)
  · refine aw_seq ?_
    refine aw_region ?_
    refine al_op rfl rfl rfl (opP_assign rfl (ev_const rfl)) ?_
    refine al_nil ?_
    refine aw_ret ?_
    exact ret_id ([.v (.int .i64 _)]) (.tmp rfl .nil) (congrArg (fun b => A.v (.int .i64 b)) (by first | (simp [classR, *]; done) | (have hh := h22; simp at hh; simp [classR, *]; done) | (have hh := h22; simp at hh; simp [classR, *]; omega))) (by first | exact trivial | exact ⟨rfl, trivial⟩ | exact ⟨rfl, rfl, trivial⟩ | exact ⟨rfl, rfl, rfl, trivial⟩ | exact ⟨rfl, rfl, rfl, rfl, trivial⟩) rfl rfl
  refine aw_seq ?_
  refine aw_region ?_
  refine al_op rfl rfl rfl (opP_bin rfl (ev_tmp rfl) (ev_const rfl) rfl) ?_
  refine al_op rfl rfl rfl (opP_assign rfl (ev_tmp rfl)) ?_
  refine al_nil ?_
  refine aw_cond rfl (fun h12 => ?_) (fun h12 => ?_)
  · refine aw_seq ?_
    refine aw_region ?_
    refine al_op rfl rfl rfl (opP_assign rfl (ev_const rfl)) ?_
    refine al_nil ?_
    refine aw_ret ?_
    exact ret_id ([.v (.int .i64 _)]) (.tmp rfl .nil) (congrArg (fun b => A.v (.int .i64 b)) (by first | (simp [classR, *]; done) | (have hh := h22; simp at hh; simp [classR, *]; done) | (have hh := h22; simp at hh; simp [classR, *]; omega))) (by first | exact trivial | exact ⟨rfl, trivial⟩ | exact ⟨rfl, rfl, trivial⟩ | exact ⟨rfl, rfl, rfl, trivial⟩ | exact ⟨rfl, rfl, rfl, rfl, trivial⟩) rfl rfl
  refine aw_seq ?_
  refine aw_region ?_
  refine al_op rfl rfl rfl (opP_bin rfl (ev_tmp rfl) (ev_const rfl) rfl) ?_
  refine al_op rfl rfl rfl (opP_assign rfl (ev_tmp rfl)) ?_
  refine al_nil ?_
  refine aw_cond rfl (fun h13 => ?_) (fun h13 => ?_)
  · refine aw_seq ?_
    refine aw_region ?_
    refine al_op rfl rfl rfl (opP_assign rfl (ev_const rfl)) ?_
    refine al_nil ?_
    refine aw_ret ?_
    exact ret_id ([.v (.int .i64 _)]) (.tmp rfl .nil) (congrArg (fun b => A.v (.int .i64 b)) (by first | (simp [classR, *]; done) | (have hh := h22; simp at hh; simp [classR, *]; done) | (have hh := h22; simp at hh; simp [classR, *]; omega))) (by first | exact trivial | exact ⟨rfl, trivial⟩ | exact ⟨rfl, rfl, trivial⟩ | exact ⟨rfl, rfl, rfl, trivial⟩ | exact ⟨rfl, rfl, rfl, rfl, trivial⟩) rfl rfl
  refine aw_seq ?_
  refine aw_region ?_
  refine al_op rfl rfl rfl (opP_bin rfl (ev_tmp rfl) (ev_const rfl) rfl) ?_
  refine al_op rfl rfl rfl (opP_assign rfl (ev_tmp rfl)) ?_
  refine al_nil ?_
  refine aw_cond rfl (fun h14 => ?_) (fun h14 => ?_)
  · refine aw_seq ?_
    refine aw_region ?_
    refine al_op rfl rfl rfl (opP_assign rfl (ev_const rfl)) ?_
    refine al_nil ?_
    refine aw_ret ?_
    exact ret_id ([.v (.int .i64 _)]) (.tmp rfl .nil) (congrArg (fun b => A.v (.int .i64 b)) (by first | (simp [classR, *]; done) | (have hh := h22; simp at hh; simp [classR, *]; done) | (have hh := h22; simp at hh; simp [classR, *]; omega))) (by first | exact trivial | exact ⟨rfl, trivial⟩ | exact ⟨rfl, rfl, trivial⟩ | exact ⟨rfl, rfl, rfl, trivial⟩ | exact ⟨rfl, rfl, rfl, rfl, trivial⟩) rfl rfl
  refine aw_seq ?_
  refine aw_region ?_
  refine al_op rfl rfl rfl (opP_bin rfl (ev_tmp rfl) (ev_const rfl) rfl) ?_
  refine al_op rfl rfl rfl (opP_assign rfl (ev_tmp rfl)) ?_
  refine al_nil ?_
  refine aw_cond rfl (fun h15 => ?_) (fun h15 => ?_)
  · refine aw_seq ?_
    refine aw_region ?_
    refine al_op rfl rfl rfl (opP_assign rfl (ev_const rfl)) ?_
    refine al_nil ?_
    refine aw_ret ?_
    exact ret_id ([.v (.int .i64 _)]) (.tmp rfl .nil) (congrArg (fun b => A.v (.int .i64 b)) (by first | (simp [classR, *]; done) | (have hh := h22; simp at hh; simp [classR, *]; done) | (have hh := h22; simp at hh; simp [classR, *]; omega))) (by first | exact trivial | exact ⟨rfl, trivial⟩ | exact ⟨rfl, rfl, trivial⟩ | exact ⟨rfl, rfl, rfl, trivial⟩ | exact ⟨rfl, rfl, rfl, rfl, trivial⟩) rfl rfl
  refine aw_seq ?_
  refine aw_region ?_
  refine al_op rfl rfl rfl (opP_bin rfl (ev_tmp rfl) (ev_const rfl) rfl) ?_
  refine al_op rfl rfl rfl (opP_assign rfl (ev_tmp rfl)) ?_
  refine al_nil ?_
  refine aw_cond rfl (fun h16 => ?_) (fun h16 => ?_)
  · refine aw_seq ?_
    refine aw_region ?_
    refine al_op rfl rfl rfl (opP_assign rfl (ev_const rfl)) ?_
    refine al_nil ?_
    refine aw_ret ?_
    exact ret_id ([.v (.int .i64 _)]) (.tmp rfl .nil) (congrArg (fun b => A.v (.int .i64 b)) (by first | (simp [classR, *]; done) | (have hh := h22; simp at hh; simp [classR, *]; done) | (have hh := h22; simp at hh; simp [classR, *]; omega))) (by first | exact trivial | exact ⟨rfl, trivial⟩ | exact ⟨rfl, rfl, trivial⟩ | exact ⟨rfl, rfl, rfl, trivial⟩ | exact ⟨rfl, rfl, rfl, rfl, trivial⟩) rfl rfl
  refine aw_seq ?_
  refine aw_region ?_
  refine al_op rfl rfl rfl (opP_bin rfl (ev_tmp rfl) (ev_const rfl) rfl) ?_
  refine al_op rfl rfl rfl (opP_assign rfl (ev_tmp rfl)) ?_
  refine al_nil ?_
  refine aw_cond rfl (fun h17 => ?_) (fun h17 => ?_)
  · refine aw_seq ?_
    refine aw_region ?_
    refine al_op rfl rfl rfl (opP_assign rfl (ev_const rfl)) ?_
    refine al_nil ?_
    refine aw_ret ?_
    exact ret_id ([.v (.int .i64 _)]) (.tmp rfl .nil) (congrArg (fun b => A.v (.int .i64 b)) (by first | (simp [classR, *]; done) | (have hh := h22; simp at hh; simp [classR, *]; done) | (have hh := h22; simp at hh; simp [classR, *]; omega))) (by first | exact trivial | exact ⟨rfl, trivial⟩ | exact ⟨rfl, rfl, trivial⟩ | exact ⟨rfl, rfl, rfl, trivial⟩ | exact ⟨rfl, rfl, rfl, rfl, trivial⟩) rfl rfl
  refine aw_seq ?_
  refine aw_region ?_
  refine al_op rfl rfl rfl (opP_bin rfl (ev_tmp rfl) (ev_const rfl) rfl) ?_
  refine al_op rfl rfl rfl (opP_assign rfl (ev_tmp rfl)) ?_
  refine al_nil ?_
  refine aw_cond rfl (fun h18 => ?_) (fun h18 => ?_)
  · refine aw_seq ?_
    refine aw_region ?_
    refine al_op rfl rfl rfl (opP_assign rfl (ev_const rfl)) ?_
    refine al_nil ?_
    refine aw_ret ?_
    exact ret_id ([.v (.int .i64 _)]) (.tmp rfl .nil) (congrArg (fun b => A.v (.int .i64 b)) (by first | (simp [classR, *]; done) | (have hh := h22; simp at hh; simp [classR, *]; done) | (have hh := h22; simp at hh; simp [classR, *]; omega))) (by first | exact trivial | exact ⟨rfl, trivial⟩ | exact ⟨rfl, rfl, trivial⟩ | exact ⟨rfl, rfl, rfl, trivial⟩ | exact ⟨rfl, rfl, rfl, rfl, trivial⟩) rfl rfl
  refine aw_seq ?_
  refine aw_region ?_
  refine al_op rfl rfl rfl (opP_bin rfl (ev_tmp rfl) (ev_const rfl) rfl) ?_
  refine al_op rfl rfl rfl (opP_assign rfl (ev_tmp rfl)) ?_
  refine al_nil ?_
  refine aw_cond rfl (fun h19 => ?_) (fun h19 => ?_)
  · refine aw_seq ?_
    refine aw_region ?_
    refine al_op rfl rfl rfl (opP_assign rfl (ev_const rfl)) ?_
    refine al_nil ?_
    refine aw_ret ?_
    exact ret_id ([.v (.int .i64 _)]) (.tmp rfl .nil) (congrArg (fun b => A.v (.int .i64 b)) (by first | (simp [classR, *]; done) | (have hh := h22; simp at hh; simp [classR, *]; done) | (have hh := h22; simp at hh; simp [classR, *]; omega))) (by first | exact trivial | exact ⟨rfl, trivial⟩ | exact ⟨rfl, rfl, trivial⟩ | exact ⟨rfl, rfl, rfl, trivial⟩ | exact ⟨rfl, rfl, rfl, rfl, trivial⟩) rfl rfl
  refine aw_seq ?_
  refine aw_region ?_
  refine al_op rfl rfl rfl (opP_bin rfl (ev_tmp rfl) (ev_const rfl) rfl) ?_
  refine al_op rfl rfl rfl (opP_assign rfl (ev_tmp rfl)) ?_
  refine al_nil ?_
  refine aw_cond rfl (fun h20 => ?_) (fun h20 => ?_)
  · refine aw_seq ?_
    refine aw_region ?_
    refine al_op rfl rfl rfl (opP_assign rfl (ev_const rfl)) ?_
    refine al_nil ?_
    refine aw_ret ?_
    exact ret_id ([.v (.int .i64 _)]) (.tmp rfl .nil) (congrArg (fun b => A.v (.int .i64 b)) (by first | (simp [classR, *]; done) | (have hh := h22; simp at hh; simp [classR, *]; done) | (have hh := h22; simp at hh; simp [classR, *]; omega))) (by first | exact trivial | exact ⟨rfl, trivial⟩ | exact ⟨rfl, rfl, trivial⟩ | exact ⟨rfl, rfl, rfl, trivial⟩ | exact ⟨rfl, rfl, rfl, rfl, trivial⟩) rfl rfl
  refine aw_skip ?_
  refine aw_seq ?_
  refine aw_seq ?_
  refine aw_region ?_
  refine al_op rfl rfl rfl (opP_move rfl (ev_tmp rfl)) ?_
  refine al_op rfl rfl rfl (opP_bin rfl (ev_tmp rfl) (ev_const rfl) rfl) ?_
  refine al_op rfl rfl rfl (opP_move rfl (ev_tmp rfl)) ?_
  refine al_opg rfl rfl rfl rfl rfl rfl (opP_move rfl (ev_tmp rfl)) ?_
  refine al_opg rfl rfl rfl rfl rfl rfl (opP_bin rfl (ev_when rfl id) (ev_const rfl) rfl) ?_
  refine al_op rfl rfl rfl (opP_and rfl (ev_tmp rfl) (ev_when rfl id)) ?_
  refine al_nil ?_
  refine aw_cond rfl (fun h21 => ?_) (fun h21 => ?_)
  · refine aw_seq ?_
    refine aw_region ?_
    refine al_op rfl rfl rfl (opP_assign rfl (ev_const rfl)) ?_
    refine al_nil ?_
    refine aw_ret ?_
    exact ret_id ([.v (.int .i64 _)]) (.tmp rfl .nil) (congrArg (fun b => A.v (.int .i64 b)) (by first | (simp [classR, *]; done) | (have hh := h22; simp at hh; simp [classR, *]; done) | (have hh := h22; simp at hh; simp [classR, *]; omega))) (by first | exact trivial | exact ⟨rfl, trivial⟩ | exact ⟨rfl, rfl, trivial⟩ | exact ⟨rfl, rfl, rfl, trivial⟩ | exact ⟨rfl, rfl, rfl, rfl, trivial⟩) rfl rfl
  refine aw_skip ?_
  refine aw_seq ?_
  refine aw_region ?_
  refine al_op rfl rfl rfl (opP_assign rfl (ev_const rfl)) ?_
  refine al_nil ?_
  refine aw_ret ?_
  exact ret_id ([.v (.int .i64 _)]) (.tmp rfl .nil) (congrArg (fun b => A.v (.int .i64 b)) (by first | (simp [classR, *]; done) | (have hh := h22; simp at hh; simp [classR, *]; done) | (have hh := h22; simp at hh; simp [classR, *]; omega))) (by first | exact trivial | exact ⟨rfl, trivial⟩ | exact ⟨rfl, rfl, trivial⟩ | exact ⟨rfl, rfl, rfl, trivial⟩ | exact ⟨rfl, rfl, rfl, rfl, trivial⟩) rfl rfl
theorem e95 : Enters Tryz.prog 95 := enters_of Tryz.func95 (by kernel_rfl) (by kernel_rfl)
set_option maxRecDepth 100000 in
set_option maxHeartbeats 4000000 in
theorem c95 (f : Fn) (hf : f.Fits) : Ok Tryz.prog 95 [.dat none (fnD f)] [] (.v (.int .i64 (total f.blocks))) [] := by
  refine ok_of e95 Tryz.func95 rfl (by kernel_rfl) ?_
  intro cx hP hro hN hvk
  obtain ⟨P, ro, w0, Bin, N, R0, tk0, bl0, vk⟩ := cx
  subst hP hro hN
  have hvkd := vkd_of hvk
  refine aw_seq ?_
  refine aw_region ?_
  refine al_opc (k := 101) rfl rfl rfl ((hvk _).trans rfl) (opC_box rfl (ev_tmp rfl) rfl) ?_
  refine al_op rfl rfl rfl (opP_assign rfl (ev_const rfl)) ?_
  refine al_nil ?_
  refine aw_seq ?_
  refine aw_region ?_
  refine al_op rfl rfl rfl (opP_assign rfl (ev_const rfl)) ?_
  refine al_nil ?_
  refine aw_seq ?_
  refine aw_seq ?_
  refine aw_region ?_
  refine al_op rfl rfl rfl (opP_fieldAddr rfl (ev_tmp rfl) u27 rfl rfl s25 rfl) ?_
  refine al_op rfl rfl rfl (opP_load_pt rfl u25 rfl (ev_tmp rfl) rfl rfl) ?_
  refine al_op rfl rfl rfl (opP_len rfl u25 (ev_tmp rfl) (by first | exact lenA_ints | exact lenA_map | rfl)) ?_
  refine al_op rfl rfl rfl (opP_move rfl (ev_const rfl)) ?_
  refine al_nil ?_
  refine aw_block ?_
  refine aw_loop' (α := Nat) (fun b => [(1, .pt 101 0), (3, .v (.int .i64 (total (f.blocks.take b)))), (7, .dat none (.sl 1 (f.blocks.map instsD))), (8, .v (.int .i64 f.blocks.length)), (9, .v (.int .i64 b))]) (fun b => [(101, .var [.dat none (.sl 1 (ints f.params)), .v (.int .i64 f.ret), .dat none (.sl 1 (ints f.slots)), .dat none (.sl 1 (f.blocks.map instsD))])]) (fun b => b ≤ f.blocks.length) (fun b => f.blocks.length - b) 0 (Nat.zero_le _) id (Fit.of ⟨rfl, trivial⟩ ⟨rfl, rfl, rfl, rfl, rfl, trivial⟩ rfl rfl) ?_
  rintro b hb
  refine aw_seq ?_
  refine aw_region ?_
  refine al_op rfl rfl rfl (opP_bin rfl (ev_tmp rfl) (ev_tmp rfl) rfl) ?_
  refine al_nil ?_
  refine aw_seq ?_
  refine aw_condS rfl (fun h1 => ?_) (fun h1 => ?_)
  · have e0 : b = f.blocks.length := by simp at h1; omega
    subst e0
    rw [List.take_length]
    refine aw_exit ?_
    refine aw_seq ?_
    refine aw_region ?_
    refine al_op rfl rfl rfl (opP_move rfl (ev_tmp rfl)) ?_
    refine al_op rfl rfl rfl (opP_assign rfl (ev_tmp rfl)) ?_
    refine al_nil ?_
    refine aw_ret ?_
    exact ret_id _ (.tmp rfl .nil) rfl trivial rfl rfl
  have hbl : b < f.blocks.length := by simpa using h1
  have hbf := hf.blocks
  have hwr : IntKind.i64.wrap ((total (f.blocks.take b) : Int) + (f.blocks[b].length : Nat)) = (total (f.blocks.take (b + 1)) : Nat) := by
    have h1 := hf.total
    have h2 := total_take_le f.blocks (b + 1)
    rw [total_take_succ hbl] at h2 ⊢
    rw [wrapI ⟨by omega, by omega⟩]; omega
  refine aw_skip ?_
  refine aw_seq ?_
  refine aw_block ?_
  refine aw_seq ?_
  refine aw_region ?_
  refine al_op rfl rfl rfl (opP_index_dat rfl u25 s35 (ev_tmp rfl) (ev_tmp rfl) (fun _ => Int.natCast_nonneg _) (fun _ => blocks_get hbl)) ?_
  refine al_op rfl rfl rfl (opP_load_pr rfl u35 rfl (ev_tmp rfl)) ?_
  refine al_op rfl rfl rfl (opP_assign rfl (ev_tmp rfl)) ?_
  refine al_nil ?_
  refine aw_region ?_
  refine al_op rfl rfl rfl (opP_move rfl (ev_tmp rfl)) ?_
  refine al_op rfl rfl rfl (opP_move rfl (ev_tmp rfl)) ?_
  refine al_op rfl rfl rfl (opP_len rfl u35 (ev_tmp rfl) (by first | exact lenA_ints | exact lenA_map | rfl)) ?_
  refine al_op rfl rfl rfl (opP_bin rfl (ev_tmp rfl) (ev_tmp rfl) rfl) ?_
  refine al_op rfl rfl rfl (opP_assign rfl (ev_tmp rfl)) ?_
  refine al_nil ?_
  refine aw_region ?_
  refine al_op rfl rfl rfl (opP_bin rfl (ev_tmp rfl) (ev_const rfl) rfl) ?_
  refine al_op rfl rfl rfl (opP_move rfl (ev_tmp rfl)) ?_
  refine al_nil ?_
  refine ⟨b + 1, id, hbl, by omega, Fit.of ⟨rfl, trivial⟩ ⟨rfl, by rw [← hwr]; rfl, rfl, rfl, by rw [← wrapS (by omega)]; rfl, trivial⟩ rfl rfl⟩
theorem e59 : Enters Tryz.prog 59 := enters_of Tryz.func59 (by kernel_rfl) (by kernel_rfl)
set_option maxRecDepth 100000 in
set_option maxHeartbeats 4000000 in
theorem c59 (l : List Int) (hl : l.length < 1000000) : Ok Tryz.prog 59 [.dat none (.sl 1 (ints l))] [] (.row 59001 1 0 l.length) [(59001, .row 1 (ints l))] := by
  refine ok_of e59 Tryz.func59 rfl (by kernel_rfl) ?_
  intro cx hP hro hN hvk
  obtain ⟨P, ro, w0, Bin, N, R0, tk0, bl0, vk⟩ := cx
  subst hP hro hN
  have hvkd := vkd_of hvk
  refine aw_seq ?_
  refine aw_region ?_
  refine al_op rfl rfl rfl (opP_assign rfl (ev_const rfl)) ?_
  refine al_nil ?_
  refine aw_seq ?_
  refine aw_seq ?_
  refine aw_region ?_
  refine al_op rfl rfl rfl (opP_move rfl (ev_tmp rfl)) ?_
  refine al_eqnil rfl rfl rfl rfl u22 (ev_tmp rfl) ?_
  rintro b hb
  refine al_nil ?_
  refine aw_cond rfl (fun h1 => ?_) (fun h1 => ?_)
  · refine aw_seq ?_
    refine aw_region ?_
    refine al_op rfl rfl rfl (opP_assign rfl (ev_const rfl)) ?_
    have e0 : l = [] := by have := hb h1; simpa [ints] using this
    subst e0
    refine al_imp (imp_nilrow (k := 59001) (es := 1) (t := 2) ((hvk _).trans rfl) rfl) ?_
    refine al_nil ?_
    refine aw_ret ?_
    exact ret_id _ (.tmp rfl .nil) rfl (by first | exact trivial | exact ⟨rfl, trivial⟩ | exact ⟨rfl, rfl, trivial⟩ | exact ⟨rfl, rfl, rfl, trivial⟩ | exact ⟨rfl, rfl, rfl, rfl, trivial⟩) rfl rfl
  refine aw_skip ?_
  refine aw_seq ?_
  refine aw_region ?_
  refine al_opc (k := 59001) rfl rfl rfl ((hvk _).trans rfl) (opC_buildSlice (ds := []) rfl u22 s3 z3 rfl rfl .nil rfl rfl .nil rfl rfl rfl) ?_
  refine al_op rfl rfl rfl (opP_move rfl (ev_tmp rfl)) ?_
  refine al_opc rfl rfl rfl ((hvk _).trans rfl) (opC_append rfl u22 s3 z3 rfl b3 (ev_tmp rfl) (ev_tmp rfl) (.row 59001 1 _ _ rfl rfl) (.dat none 1 _ flats_ints) oneD_ints rfl (by rw [ints_len]; simp; omega) rfl) ?_
  refine al_op rfl rfl rfl (opP_assign rfl (ev_tmp rfl)) ?_
  refine al_nil ?_
  refine aw_ret ?_
  refine ret_id _ (.tmp rfl .nil) ?_ ⟨rfl, trivial⟩ rfl rfl
  show A.row 59001 1 0 (0 + (ints l).length) = _
  rw [ints_len, Nat.zero_add]
theorem e112 : Enters Tryz.prog 112 := enters_of Tryz.func112 (by kernel_rfl) (by kernel_rfl)
set_option maxRecDepth 100000 in
set_option maxHeartbeats 4000000 in
theorem c112 (k l : List Int) (hk : k.length < 1000000) : Ok Tryz.prog 112 [.dat none (.sl 1 (ints k)), .dat none (.sl 1 (ints l))] [] (.v (.bool (k == l))) [] := by
  refine ok_of e112 Tryz.func112 rfl (by kernel_rfl) ?_
  intro cx hP hro hN hvk
  obtain ⟨P, ro, w0, Bin, N, R0, tk0, bl0, vk⟩ := cx
  subst hP hro hN
  have hvkd := vkd_of hvk
  refine aw_seq ?_
  refine aw_region ?_
  refine al_op rfl rfl rfl (opP_assign rfl (ev_const rfl)) ?_
  refine al_nil ?_
  refine aw_seq ?_
  refine aw_seq ?_
  refine aw_region ?_
  refine al_op rfl rfl rfl (opP_move rfl (ev_tmp rfl)) ?_
  refine al_op rfl rfl rfl (opP_len rfl u22 (ev_tmp rfl) (by first | exact lenA_ints | exact lenA_map | rfl)) ?_
  refine al_op rfl rfl rfl (opP_move rfl (ev_tmp rfl)) ?_
  refine al_op rfl rfl rfl (opP_len rfl u22 (ev_tmp rfl) (by first | exact lenA_ints | exact lenA_map | rfl)) ?_
  refine al_op rfl rfl rfl (opP_bin rfl (ev_tmp rfl) (ev_tmp rfl) rfl) ?_
  refine al_nil ?_
  refine aw_cond rfl (fun h1 => ?_) (fun h1 => ?_)
  · refine aw_seq ?_
    refine aw_region ?_
    refine al_op rfl rfl rfl (opP_assign rfl (ev_const rfl)) ?_
    refine al_nil ?_
    refine aw_ret ?_
    have e : (k == l) = false := by
      exact beq_false_of_ne fun e => by subst e; simp at h1
    rw [e]; exact ret_id _ (.tmp rfl .nil) rfl trivial rfl rfl
  have hkl : k.length = l.length := by have : (k.length : Int) = l.length := by simpa [ints_len] using h1
                                       omega
  refine aw_skip ?_
  refine aw_seq ?_
  refine aw_seq ?_
  refine aw_region ?_
  refine al_op rfl rfl rfl (opP_move rfl (ev_tmp rfl)) ?_
  refine al_op rfl rfl rfl (opP_len rfl u22 (ev_tmp rfl) (by first | exact lenA_ints | exact lenA_map | rfl)) ?_
  refine al_op rfl rfl rfl (opP_move rfl (ev_const rfl)) ?_
  refine al_nil ?_
  refine aw_block ?_
  refine aw_loop' (α := Nat) (fun i => [(0, .dat none (.sl 1 (ints k))), (1, .dat none (.sl 1 (ints l))), (12, .v (.int .i64 k.length)), (13, .v (.int .i64 i))]) (fun i => []) (fun i => i ≤ k.length ∧ k.take i = l.take i) (fun i => k.length - i) 0 ⟨Nat.zero_le _, rfl⟩ id (Fit.of trivial ⟨rfl, rfl, rfl, rfl, trivial⟩ rfl rfl) ?_
  rintro i ⟨hi, he⟩
  refine aw_seq ?_
  refine aw_region ?_
  refine al_op rfl rfl rfl (opP_bin rfl (ev_tmp rfl) (ev_tmp rfl) rfl) ?_
  refine al_nil ?_
  refine aw_seq ?_
  refine aw_condS rfl (fun h2 => ?_) (fun h2 => ?_)
  · refine aw_exit ?_
    refine aw_seq ?_
    refine aw_region ?_
    refine al_op rfl rfl rfl (opP_assign rfl (ev_const rfl)) ?_
    refine al_nil ?_
    refine aw_ret ?_
    have e : (k == l) = true := by
      have e0 : i = k.length := by simp at h2; omega
      rw [e0, List.take_length, hkl, List.take_length] at he
      rw [he]; exact beq_self_eq_true _
    rw [e]; exact ret_id _ (.tmp rfl .nil) rfl trivial rfl rfl
  have hil : i < k.length := by simpa using h2
  have hil2 : i < l.length := by omega
  refine aw_skip ?_
  refine aw_seq ?_
  refine aw_block ?_
  refine aw_seq ?_
  refine aw_region ?_
  refine al_op rfl rfl rfl (opP_move rfl (ev_tmp rfl)) ?_
  refine al_op rfl rfl rfl (opP_assign rfl (ev_tmp rfl)) ?_
  refine al_nil ?_
  refine aw_seq ?_
  refine aw_draw mixed ?_
  apply ad_phase' [⟨0, 16, _, [], []⟩, ⟨1, 17, _, [], []⟩, ⟨2, 18, _, [0, 1], []⟩, ⟨3, 19, _, [0, 1, 2], []⟩, ⟨4, 20, _, [], []⟩, ⟨5, 21, _, [], []⟩, ⟨6, 22, _, [4, 5], []⟩, ⟨7, 23, _, [4, 5, 6], []⟩, ⟨8, 24, _, [0, 1, 2, 3, 4, 5, 6, 7], []⟩] [] (fuelT := 0)
  · skip
    refine .cons rfl (stepD_op rfl (opP_move rfl (ev_tmp rfl))) ?_
    refine .cons rfl (stepD_op rfl (opP_move rfl (ev_tmp rfl))) ?_
    refine .cons rfl (stepD_op rfl (opP_index_dat rfl u22 s3 (ev_tmp rfl) (ev_tmp rfl) (fun _ => Int.natCast_nonneg _) (fun _ => ints_get hil))) ?_
    refine .cons rfl (stepD_op rfl (opP_load_pr rfl u3 rfl (ev_tmp rfl))) ?_
    refine .cons rfl (stepD_op rfl (opP_move rfl (ev_tmp rfl))) ?_
    refine .cons rfl (stepD_op rfl (opP_move rfl (ev_tmp rfl))) ?_
    refine .cons rfl (stepD_op rfl (opP_index_dat rfl u22 s3 (ev_tmp rfl) (ev_tmp rfl) (fun _ => Int.natCast_nonneg _) (fun _ => ints_get hil2))) ?_
    refine .cons rfl (stepD_op rfl (opP_load_pr rfl u3 rfl (ev_tmp rfl))) ?_
    refine .cons rfl (stepD_op rfl (opP_bin rfl (ev_tmp rfl) (ev_tmp rfl) rfl)) ?_
    exact .nil
  · exact .no rfl (.no rfl (.no rfl (.no rfl (.no rfl (.no rfl (.no rfl (.no rfl (.no rfl (.nil)))))))))
  · rfl
  · rfl
  · rfl
  · rfl
  · exact fun c s h => h
  · exact hvkd _ rfl
  · rfl
  refine ad_done rfl ?_
  refine aw_condS rfl (fun h3 => ?_) (fun h3 => ?_)
  · refine aw_skip ?_
    refine aw_region ?_
    refine al_op rfl rfl rfl (opP_bin rfl (ev_tmp rfl) (ev_const rfl) rfl) ?_
    refine al_op rfl rfl rfl (opP_move rfl (ev_tmp rfl)) ?_
    refine al_nil ?_
    refine ⟨i + 1, id, ⟨hil, ?_⟩, by omega, Fit.of trivial ⟨rfl, rfl, rfl, by rw [← wrapS (by omega)]; rfl, trivial⟩ rfl rfl⟩
    rw [List.take_succ_eq_append_getElem hil, List.take_succ_eq_append_getElem hil2, he]
    have : k[i] = l[i] := by simpa using h3
    rw [this]
  refine aw_seq ?_
  refine aw_region ?_
  refine al_op rfl rfl rfl (opP_assign rfl (ev_const rfl)) ?_
  refine al_nil ?_
  refine aw_ret ?_
  have e : (k == l) = false := by
    refine beq_false_of_ne fun e => ?_
    subst e
    simp at h3
  rw [e]; exact ret_id _ (.tmp rfl .nil) rfl trivial rfl rfl
theorem e97 : Enters Tryz.prog 97 := enters_of Tryz.func97 (by kernel_rfl) (by kernel_rfl)
set_option maxRecDepth 100000 in
set_option maxHeartbeats 4000000 in
theorem c97 (f : Fn) : Ok Tryz.prog 97 [.dat none (fnD f)] [] (.clo 160 [.pt 97001 0]) [(97001, .var (fnA f))] := by
  refine ok_of e97 Tryz.func97 rfl (by kernel_rfl) ?_
  intro cx hP hro hN hvk
  obtain ⟨P, ro, w0, Bin, N, R0, tk0, bl0, vk⟩ := cx
  subst hP hro hN
  have hvkd := vkd_of hvk
  refine aw_seq ?_
  refine aw_region ?_
  refine al_opc (k := 97001) rfl rfl rfl ((hvk _).trans rfl) (opC_box rfl (ev_tmp rfl) rfl) ?_
  refine al_op rfl rfl rfl (opP_assign rfl (ev_const rfl)) ?_
  refine al_nil ?_
  refine aw_seq ?_
  refine aw_region ?_
  refine al_op rfl rfl rfl (opP_makeFunc rfl (.cons (ev_tmp rfl) .nil)) ?_
  refine al_op rfl rfl rfl (opP_assign rfl (ev_tmp rfl)) ?_
  refine al_nil ?_
  refine aw_ret ?_
  exact ret_id ([_]) (.tmp rfl .nil) rfl (by first | exact trivial | exact ⟨rfl, trivial⟩ | exact ⟨rfl, rfl, trivial⟩ | exact ⟨rfl, rfl, rfl, trivial⟩ | exact ⟨rfl, rfl, rfl, rfl, trivial⟩) rfl rfl
theorem e209 : Enters Tryz.prog 209 := enters_of Tryz.func209 (by kernel_rfl) (by kernel_rfl)
set_option maxRecDepth 100000 in
set_option maxHeartbeats 4000000 in
theorem c209 (fc : Nat) (caps : List A) (l : List Int) (p : Int → Bool) (hl : l.length < 1000000) (hcv : ∀ objs, VwL objs [] id caps caps) (hok : ∀ x ∈ l, Ok Tryz.prog fc (.v (.int .i64 x) :: caps) [] (.v (.bool (p x))) []) : Ok Tryz.prog 209 [.dat none (.sl 1 (ints l)), .clo fc caps] [] (.v (.int .i64 (idxR l p))) [] := by
  refine ok_of e209 Tryz.func209 rfl (by kernel_rfl) ?_
  intro cx hP hro hN hvk
  obtain ⟨P, ro, w0, Bin, N, R0, tk0, bl0, vk⟩ := cx
  subst hP hro hN
  have hvkd := vkd_of hvk
  have hcw : withinL (keyIn []) caps = true := within_vw (hcv fun _ => none)
  refine aw_seq ?_
  refine aw_region ?_
  refine al_op rfl rfl rfl (opP_assign rfl (ev_const rfl)) ?_
  refine al_nil ?_
  refine aw_seq ?_
  refine aw_seq ?_
  refine aw_region ?_
  refine al_op rfl rfl rfl (opP_move rfl (ev_tmp rfl)) ?_
  refine al_op rfl rfl rfl (opP_len rfl u22 (ev_tmp rfl) (by first | exact lenA_ints | exact lenA_map | rfl)) ?_
  refine al_op rfl rfl rfl (opP_move rfl (ev_const rfl)) ?_
  refine al_nil ?_
  refine aw_block ?_
  refine aw_loop' (α := Nat) (fun i => [(0, .dat none (.sl 1 (ints l))), (1, .clo fc caps), (7, .v (.int .i64 l.length)), (8, .v (.int .i64 i))]) (fun i => []) (fun i => i ≤ l.length ∧ ∀ x ∈ l.take i, p x = false) (fun i => l.length - i) 0 ⟨Nat.zero_le _, fun x hx => by simp at hx⟩ id (Fit.of trivial ⟨rfl, rfl, rfl, rfl, trivial⟩ rfl (by simp only [List.all_cons, List.all_nil, A.within, hcw, Bool.and_self])) ?_
  rintro i ⟨hi, hno⟩
  refine aw_seq ?_
  refine aw_region ?_
  refine al_op rfl rfl rfl (opP_bin rfl (ev_tmp rfl) (ev_tmp rfl) rfl) ?_
  refine al_nil ?_
  refine aw_seq ?_
  refine aw_condS rfl (fun h1 => ?_) (fun h1 => ?_)
  · refine aw_exit ?_
    refine aw_seq ?_
    refine aw_region ?_
    refine al_op rfl rfl rfl (opP_assign rfl (ev_const rfl)) ?_
    refine al_nil ?_
    refine aw_ret ?_
    have e : idxR l p = -1 := by
      have e0 : i = l.length := by simp at h1; omega
      rw [e0, List.take_length] at hno
      unfold idxR
      rw [List.findIdx?_eq_none_iff.2 hno]
    rw [e]; exact ret_id _ (.tmp rfl .nil) rfl trivial rfl rfl
  have hil : i < l.length := by simpa using h1
  refine aw_skip ?_
  refine aw_seq ?_
  refine aw_block ?_
  refine aw_seq ?_
  refine aw_region ?_
  refine al_op rfl rfl rfl (opP_move rfl (ev_tmp rfl)) ?_
  refine al_op rfl rfl rfl (opP_assign rfl (ev_tmp rfl)) ?_
  refine al_nil ?_
  refine aw_seq ?_
  refine aw_region ?_
  refine al_op rfl rfl rfl (opP_move rfl (ev_tmp rfl)) ?_
  refine al_op rfl rfl rfl (opP_move rfl (ev_tmp rfl)) ?_
  refine al_op rfl rfl rfl (opP_move rfl (ev_tmp rfl)) ?_
  refine al_op rfl rfl rfl (opP_index_dat rfl u22 s3 (ev_tmp rfl) (ev_tmp rfl) (fun _ => Int.natCast_nonneg _) (fun _ => ints_get hil)) ?_
  refine al_op rfl rfl rfl (opP_load_pr rfl u3 rfl (ev_tmp rfl)) ?_
  refine al_call id rfl rfl rfl (callOf_clo rfl (ev_tmp rfl) (.cons (ev_tmp rfl) .nil)) (hok l[i] (List.getElem_mem hil)) (.cons (.v _) (hcv _)) (fun _ h => absurd h (by simp)) rfl rfl rfl (fun _ h => absurd h (by simp)) ?_
  refine al_nil ?_
  refine aw_cond rfl (fun h2 => ?_) (fun h2 => ?_)
  · refine aw_seq ?_
    refine aw_region ?_
    refine al_op rfl rfl rfl (opP_move rfl (ev_tmp rfl)) ?_
    refine al_op rfl rfl rfl (opP_assign rfl (ev_tmp rfl)) ?_
    refine al_nil ?_
    refine aw_ret ?_
    have e : idxR l p = i := by
      unfold idxR
      rw [List.findIdx?_eq_some_iff_getElem.2 ⟨hil, h2, fun j hj => by simpa using hno l[j] (by rw [List.mem_take_iff_getElem]; exact ⟨j, by omega, rfl⟩)⟩]
    rw [e]; exact ret_id _ (.tmp rfl .nil) rfl trivial rfl rfl
  refine aw_skip ?_
  refine aw_region ?_
  refine al_op rfl rfl rfl (opP_bin rfl (ev_tmp rfl) (ev_const rfl) rfl) ?_
  refine al_op rfl rfl rfl (opP_move rfl (ev_tmp rfl)) ?_
  refine al_nil ?_
  refine ⟨i + 1, id, ⟨hil, fun x hx => ?_⟩, by omega, Fit.of trivial ⟨rfl, kill_no (fun _ => rfl) (fun _ => rfl) (.clo fc caps), rfl, by rw [← wrapS (by omega)]; rfl, trivial⟩ rfl (by simp only [List.all_cons, List.all_nil, A.within, hcw, Bool.and_self])⟩
  rw [List.take_succ_eq_append_getElem hil] at hx
  rcases List.mem_append.1 hx with hx | hx
  · exact hno x hx
  · have e : x = l[i] := by simpa using hx
    rw [e]; simpa using h2
theorem e156 : Enters Tryz.prog 156 := enters_of Tryz.func156 (by kernel_rfl) (by kernel_rfl)
set_option maxRecDepth 100000 in
set_option maxHeartbeats 4000000 in
theorem c156 (fc : Nat) (caps : List A) (l : List Int) (p : Int → Bool) (hl : l.length < 1000000) (hcv : ∀ objs, VwL objs [] id caps caps) (hok : ∀ x ∈ l, Ok Tryz.prog fc (.v (.int .i64 x) :: caps) [] (.v (.bool (p x))) []) : Ok Tryz.prog 156 [.dat none (.sl 1 (ints l)), .clo fc caps] [] (.v (.bool (l.any p))) [] := by
  refine ok_of e156 Tryz.func156 rfl (by kernel_rfl) ?_
  intro cx hP hro hN hvk
  obtain ⟨P, ro, w0, Bin, N, R0, tk0, bl0, vk⟩ := cx
  subst hP hro hN
  have hvkd := vkd_of hvk
  refine aw_seq ?_
  refine aw_region ?_
  refine al_op rfl rfl rfl (opP_assign rfl (ev_const rfl)) ?_
  refine al_nil ?_
  refine aw_seq ?_
  refine aw_region ?_
  refine al_op rfl rfl rfl (opP_move rfl (ev_tmp rfl)) ?_
  refine al_op rfl rfl rfl (opP_move rfl (ev_tmp rfl)) ?_
  refine al_call id rfl rfl rfl (callOf_func rfl (.cons (ev_tmp rfl) (.cons (ev_tmp rfl) .nil))) (c209 fc caps l p hl hcv hok) (.cons (.datn _) (.cons (Vw.cloOf (hcv _)) .nil)) (fun _ h => absurd h (by simp)) rfl rfl rfl (fun _ h => absurd h (by simp)) ?_
  refine al_op rfl rfl rfl (opP_bin rfl (ev_tmp rfl) (ev_const rfl) rfl) ?_
  refine al_op rfl rfl rfl (opP_assign rfl (ev_tmp rfl)) ?_
  refine al_nil ?_
  refine aw_ret ?_
  exact ret_id ([.v (.bool _)]) (.tmp rfl .nil) (congrArg (fun b => A.v (.bool b)) (idx_any l p)) (by first | exact trivial | exact ⟨rfl, trivial⟩ | exact ⟨rfl, rfl, trivial⟩ | exact ⟨rfl, rfl, rfl, trivial⟩ | exact ⟨rfl, rfl, rfl, rfl, trivial⟩) rfl rfl
end Go.AL
namespace Go.AL
def maskV (n : Int) : Int := if isW n then 2 ^ n.toNat - 1 else 0
def maskE (n : Int) : Int := if isW n then 0 else 1
theorem pow_w {n : Int} (h : isW n = true) : (1 : Int) ≤ 2 ^ n.toNat ∧ (2 : Int) ^ n.toNat ≤ 4294967296 := by
  simp only [isW, Bool.and_eq_true, decide_eq_true_eq] at h
  have h3 : (2 : Int) ^ n.toNat ≤ 2 ^ 32 := by
    have : (2 : Nat) ^ n.toNat ≤ 2 ^ 32 := Nat.pow_le_pow_right (by omega) (by omega)
    exact_mod_cast this
  have h4 : (0 : Int) < 2 ^ n.toNat := Int.pow_pos (by omega)
  omega
theorem mask_eq {n : Int} (h : isW n = true) : IntKind.u32.wrap (IntKind.u64.wrap (IntKind.u64.wrap (1 * 2 ^ min n.toNat IntKind.u64.bits) - 1)) = 2 ^ n.toNat - 1 := by
  have hp := pow_w h
  simp only [isW, Bool.and_eq_true, decide_eq_true_eq] at h
  have e : min n.toNat IntKind.u64.bits = n.toNat := by show min n.toNat 64 = _; omega
  rw [e, Int.one_mul]
  generalize (2 : Int) ^ n.toNat = p at *
  rw [IntKind.wrap_u64, IntKind.wrap_u64, IntKind.wrap_u32]
  omega
def shapeI (f : Fn) (x : Inst) : Int × Int × Bool :=
  let n := isW x.w
  let c := classR x.op
  if c == 1 then (0, 0, maskE x.w == 0 && decide (x.imm ≤ maskV x.w))
  else if c == 2 then (2, 0, n && x.imm == 0)
  else if c == 3 then (2, 0, x.w == 1 && decide (x.imm ≤ 9))
  else if c == 4 then (3, 0, (n || x.w == 33) && x.imm == 0)
  else if c == 5 || c == 6 || c == 8 then (1, 0, n && x.imm == 0)
  else if c == 7 then (2, 0, n && decide (x.imm ≥ 1) && decide (x.imm < x.w) && x.w.tmod x.imm == 0)
  else if c == 9 then (0, 0, n && x.imm == 0)
  else if c == 10 then (0, 0, x.w == 33 && decide (x.imm < f.slots.length))
  else if c == 11 then (2, 0, x.w == 33 && x.imm == 0)
  else if c == 12 then (1, 0, memR x.w && x.imm == 0)
  else if c == 13 then (2, 0, x.w == 0 && x.imm == 0)
  else if c == 14 then (x.to.length, x.to.length, (n || x.w == 33) && x.imm == 0 && decide ((x.to.length : Int) > 0))
  else if c == 15 then (0, 1, x.w == 0 && x.imm == 0)
  else if c == 16 then (1, 2, x.w == 0 && x.imm == 0 && ((x.to.length : Int) != 2 || x.to.getD 0 0 != x.to.getD 1 0))
  else if c == 17 then ((if (1 : Int) < f.ret then 1 else f.ret), 0, x.w == 0 && x.imm == 0)
  else if c == 18 then (0, 0, x.w == 0 && x.imm == 0)
  else (0, 0, false)
theorem any_not (l : List Int) (p : Int → Bool) : (l.any fun n => !(p n)) = !(l.all p) := by rw [List.not_all_eq_any_not]
theorem all_not (l : List Int) (p : Int → Bool) : (l.all fun n => !(p n)) = !(l.any p) := by rw [List.not_any_eq_all_not]
theorem head_eq (f : Fn) : (!(retBad f) && f.params.all isW && slotsOk f) = (!((f.params.any (fun n => !(isW n)) || decide (f.ret < 0)) || decide (f.ret > 32)) && !(f.slots.any slotBad)) := by
  rw [any_not, slotsOk, all_not, retBad]
  cases f.params.all isW <;> cases decide (f.ret < 0) <;> cases decide (f.ret > 32) <;> cases f.slots.any slotBad <;> rfl
theorem u32_w {n : Int} (h : isW n = true) : IntKind.u32.wrap n = n := by
  simp only [isW, Bool.and_eq_true, decide_eq_true_eq] at h
  rw [IntKind.wrap_u32]; omega
def clearN (a b : Int) : Int := IntKind.i64.wrap (BitVec.ofInt IntKind.i64.bits a &&& ~~~(BitVec.ofInt IntKind.i64.bits b)).toNat
def shapedI (f : Fn) (x : Inst) : Bool :=
  !(((!(shapeI f x).2.2 || (x.args.length : Int) != (shapeI f x).1) || (x.to.length : Int) != (shapeI f x).2.1) || clearN x.fl (flagsR x.op) != 0) && !(x.to.any (toBad f))
end Go.AL
namespace Go.AL
open Go.Proofs
theorem u166 : Tryz.prog.underlying 166 = some Tryz.t166.desc := by kernel_rfl
theorem s166 : (Tryz.prog.info? 166).map (·.size) = some 1 := by kernel_rfl
theorem z166 : (Tryz.prog.info? 166).bind (·.zero) = Tryz.t166.zero := by kernel_rfl
theorem b166 : ((Tryz.prog.info? 166).map fun i => Nat.ble i.bytes 1000) = some true := by kernel_rfl
theorem e163 : Enters Tryz.prog 163 := enters_of Tryz.func163 (by kernel_rfl) (by kernel_rfl)
set_option maxRecDepth 100000 in
set_option maxHeartbeats 4000000 in
theorem c163 (f : Fn) (n : Int) : Ok Tryz.prog 163 [.v (.int .i64 n), .prv (fnA f)] [] (.v (.bool (toBad f n))) [] := by
  refine ok_of e163 Tryz.func163 rfl (by kernel_rfl) ?_
  intro cx hP hro hN hvk
  obtain ⟨P, ro, w0, Bin, N, R0, tk0, bl0, vk⟩ := cx
  subst hP hro hN
  have hvkd := vkd_of hvk
  refine aw_seq ?_
  refine aw_region ?_
  refine al_op rfl rfl rfl (opP_assign rfl (ev_const rfl)) ?_
  refine al_nil ?_
  refine aw_seq ?_
  refine aw_region ?_
  refine al_op rfl rfl rfl (opP_move rfl (ev_tmp rfl)) ?_
  refine al_op rfl rfl rfl (opP_bin rfl (ev_tmp rfl) (ev_const rfl) rfl) ?_
  refine al_op rfl rfl rfl (opP_move rfl (ev_tmp rfl)) ?_
  refine al_opg rfl rfl rfl rfl rfl rfl (opP_move rfl (ev_tmp rfl)) ?_
  refine al_opg rfl rfl rfl rfl rfl rfl (opP_fieldAddr rfl (ev_tmp rfl) u27 rfl rfl s25 rfl) ?_
  refine al_opg rfl rfl rfl rfl rfl rfl (opP_load_prv rfl u25 rfl (ev_when rfl id)) ?_
  refine al_opg rfl rfl rfl rfl rfl rfl (opP_len rfl u25 (ev_when rfl id) (by first | exact lenA_ints | exact lenA_map | rfl)) ?_
  refine al_opg rfl rfl rfl rfl rfl rfl (opP_bin rfl (ev_when rfl id) (ev_when rfl id) rfl) ?_
  refine al_op rfl rfl rfl (opP_or rfl (ev_tmp rfl) (ev_when rfl id)) ?_
  refine al_op rfl rfl rfl (opP_assign rfl (ev_tmp rfl)) ?_
  refine al_nil ?_
  refine aw_ret ?_
  exact ret_id _ (.tmp rfl .nil) rfl trivial rfl rfl
theorem e85 : Enters Tryz.prog 85 := enters_of Tryz.func85 (by kernel_rfl) (by kernel_rfl)
set_option maxRecDepth 100000 in
set_option maxHeartbeats 4000000 in
theorem c85 (n : Int) (hn : isW n = true) : Ok Tryz.prog 85 [.v (.int .i64 n)] [] (.v (.int .u32 (2 ^ n.toNat - 1))) [] := by
  refine ok_of e85 Tryz.func85 rfl (by kernel_rfl) ?_
  intro cx hP hro hN hvk
  obtain ⟨P, ro, w0, Bin, N, R0, tk0, bl0, vk⟩ := cx
  subst hP hro hN
  have hvkd := vkd_of hvk
  refine aw_seq ?_
  refine aw_region ?_
  refine al_op rfl rfl rfl (opP_assign rfl (ev_const rfl)) ?_
  refine al_nil ?_
  refine aw_seq ?_
  refine aw_region ?_
  refine al_op rfl rfl rfl (opP_move rfl (ev_tmp rfl)) ?_
  refine al_op rfl rfl rfl (opP_shl rfl (ev_const rfl) (ev_tmp rfl) (fun _ => by simp [isW] at hn; omega)) ?_
  refine al_op rfl rfl rfl (opP_bin rfl (ev_tmp rfl) (ev_const rfl) rfl) ?_
  refine al_op rfl rfl rfl (opP_convert rfl (by rw [u166]; rfl) u36 (ev_tmp rfl)) ?_
  refine al_op rfl rfl rfl (opP_assign rfl (ev_tmp rfl)) ?_
  refine al_nil ?_
  refine aw_ret ?_
  exact ret_id ([.v (.int .u32 _)]) (.tmp rfl .nil) (congrArg (fun b => A.v (.int .u32 b)) (mask_eq hn)) (by first | exact trivial | exact ⟨rfl, trivial⟩ | exact ⟨rfl, rfl, trivial⟩ | exact ⟨rfl, rfl, rfl, trivial⟩ | exact ⟨rfl, rfl, rfl, rfl, trivial⟩) rfl rfl
theorem e173 : Enters Tryz.prog 173 := enters_of Tryz.func173 (by kernel_rfl) (by kernel_rfl)
set_option maxRecDepth 100000 in
set_option maxHeartbeats 4000000 in
theorem c173 (n : Int) : Ok Tryz.prog 173 [.v (.int .i64 n)] [] (.tup [.v (.int .u32 (maskV n)), .v (.int .i64 (maskE n))]) [] := by
  refine ok_of e173 Tryz.func173 rfl (by kernel_rfl) ?_
  intro cx hP hro hN hvk
  obtain ⟨P, ro, w0, Bin, N, R0, tk0, bl0, vk⟩ := cx
  subst hP hro hN
  have hvkd := vkd_of hvk
  refine aw_seq ?_
  refine aw_region ?_
  refine al_op rfl rfl rfl (opP_assign rfl (ev_const rfl)) ?_
  refine al_op rfl rfl rfl (opP_assign rfl (ev_const rfl)) ?_
  refine al_nil ?_
  refine aw_seq ?_
  refine aw_seq ?_
  refine aw_region ?_
  refine al_op rfl rfl rfl (opP_move rfl (ev_tmp rfl)) ?_
  refine al_call (id) rfl rfl rfl (callOf_func rfl (.cons (ev_tmp rfl) .nil)) (c84 n) (by repeat' (first | refine Vw.stDOf ?_ | refine Vw.ptOf rfl rfl rfl ?_ | refine Vw.prvOf ?_ | refine Vw.cloOf ?_ | constructor)) (fun _ h => absurd h (by simp)) rfl rfl rfl (fun _ h => absurd h (by simp)) ?_
  refine al_op rfl rfl rfl (opP_not rfl (ev_tmp rfl)) ?_
  refine al_nil ?_
  refine aw_cond rfl (fun h1 => ?_) (fun h1 => ?_)
  · refine aw_seq ?_
    refine aw_region ?_
    refine al_op rfl rfl rfl (opP_assign rfl (ev_const rfl)) ?_
    refine al_op rfl rfl rfl (opP_assign rfl (ev_const rfl)) ?_
    refine al_nil ?_
    refine aw_ret ?_
    have e : isW n = false := by simpa using h1
    rw [show maskV n = 0 by simp [maskV, e], show maskE n = 1 by simp [maskE, e]]
    exact ret_id _ (.tmp rfl (.tmp rfl .nil)) rfl trivial rfl rfl
  have e : isW n = true := by simpa using h1
  refine aw_skip ?_
  refine aw_seq ?_
  refine aw_region ?_
  refine al_op rfl rfl rfl (opP_move rfl (ev_tmp rfl)) ?_
  refine al_call (id) rfl rfl rfl (callOf_func rfl (.cons (ev_tmp rfl) .nil)) (c85 n e) (by repeat' (first | refine Vw.stDOf ?_ | refine Vw.ptOf rfl rfl rfl ?_ | refine Vw.prvOf ?_ | refine Vw.cloOf ?_ | constructor)) (fun _ h => absurd h (by simp)) rfl rfl rfl (fun _ h => absurd h (by simp)) ?_
  refine al_op rfl rfl rfl (opP_assign rfl (ev_tmp rfl)) ?_
  refine al_op rfl rfl rfl (opP_assign rfl (ev_const rfl)) ?_
  refine al_nil ?_
  refine aw_ret ?_
  rw [show maskV n = 2 ^ n.toNat - 1 by simp [maskV, e], show maskE n = 0 by simp [maskE, e]]
  exact ret_id _ (.tmp rfl (.tmp rfl .nil)) rfl trivial rfl rfl
theorem e96 : Enters Tryz.prog 96 := enters_of Tryz.func96 (by kernel_rfl) (by kernel_rfl)
set_option maxRecDepth 100000 in
set_option maxHeartbeats 4000000 in
theorem c96 (f : Fn) (hf : f.Fits) : Ok Tryz.prog 96 [.dat none (fnD f)] [] (.v (.bool (!(retBad f) && f.params.all isW && slotsOk f))) [] := by
  refine ok_of e96 Tryz.func96 rfl (by kernel_rfl) ?_
  intro cx hP hro hN hvk
  obtain ⟨P, ro, w0, Bin, N, R0, tk0, bl0, vk⟩ := cx
  subst hP hro hN
  have hvkd := vkd_of hvk
  refine aw_seq ?_
  refine aw_region ?_
  refine al_opc (k := 101) rfl rfl rfl ((hvk _).trans rfl) (opC_box rfl (ev_tmp rfl) rfl) ?_
  refine al_op rfl rfl rfl (opP_assign rfl (ev_const rfl)) ?_
  refine al_nil ?_
  refine aw_seq ?_
  refine aw_seq ?_
  refine aw_region ?_
  refine al_op rfl rfl rfl (opP_fieldAddr rfl (ev_tmp rfl) u27 rfl rfl s22 rfl) ?_
  refine al_op rfl rfl rfl (opP_load_pt rfl u22 rfl (ev_tmp rfl) rfl rfl) ?_
  refine al_call id rfl rfl rfl (callOf_func rfl (.cons (ev_tmp rfl) (.cons ev_func .nil))) (c156 157 [] f.params (fun n => !(isW n)) hf.params (fun _ => .nil) (fun y _ => c157 y)) (.cons (.datn _) (.cons (Vw.cloOf .nil) .nil)) (fun _ h => absurd h (by simp)) rfl rfl rfl (fun _ h => absurd h (by simp)) ?_
  refine al_op rfl rfl rfl (opP_move rfl (ev_tmp rfl)) ?_
  refine al_opg rfl rfl rfl rfl rfl rfl (opP_fieldAddr rfl (ev_tmp rfl) u27 rfl rfl s3 rfl) ?_
  refine al_opg rfl rfl rfl rfl rfl rfl (opP_load_pt rfl u3 rfl (ev_when rfl id) rfl rfl) ?_
  refine al_opg rfl rfl rfl rfl rfl rfl (opP_bin rfl (ev_when rfl id) (ev_const rfl) rfl) ?_
  refine al_op rfl rfl rfl (opP_or rfl (ev_tmp rfl) (ev_when rfl id)) ?_
  refine al_op rfl rfl rfl (opP_move rfl (ev_tmp rfl)) ?_
  refine al_opg rfl rfl rfl rfl rfl rfl (opP_fieldAddr rfl (ev_tmp rfl) u27 rfl rfl s3 rfl) ?_
  refine al_opg rfl rfl rfl rfl rfl rfl (opP_load_pt rfl u3 rfl (ev_when rfl id) rfl rfl) ?_
  refine al_opg rfl rfl rfl rfl rfl rfl (opP_bin rfl (ev_when rfl id) (ev_const rfl) rfl) ?_
  refine al_op rfl rfl rfl (opP_or rfl (ev_tmp rfl) (ev_when rfl id)) ?_
  refine al_nil ?_
  refine aw_cond rfl (fun h1 => ?_) (fun h1 => ?_)
  · refine aw_seq ?_
    refine aw_region ?_
    refine al_op rfl rfl rfl (opP_assign rfl (ev_const rfl)) ?_
    refine al_nil ?_
    refine aw_ret ?_
    rw [head_eq f, h1]; exact ret_id _ (.tmp rfl .nil) rfl trivial rfl rfl
  refine aw_skip ?_
  refine aw_seq ?_
  refine aw_region ?_
  refine al_op rfl rfl rfl (opP_fieldAddr rfl (ev_tmp rfl) u27 rfl rfl s22 rfl) ?_
  refine al_op rfl rfl rfl (opP_load_pt rfl u22 rfl (ev_tmp rfl) rfl rfl) ?_
  refine al_call id rfl rfl rfl (callOf_func rfl (.cons (ev_tmp rfl) (.cons ev_func .nil))) (c156 159 [] f.slots (slotBad) hf.slots (fun _ => .nil) (fun y _ => c159 y)) (.cons (.datn _) (.cons (Vw.cloOf .nil) .nil)) (fun _ h => absurd h (by simp)) rfl rfl rfl (fun _ h => absurd h (by simp)) ?_
  refine al_op rfl rfl rfl (opP_not rfl (ev_tmp rfl)) ?_
  refine al_op rfl rfl rfl (opP_assign rfl (ev_tmp rfl)) ?_
  refine al_nil ?_
  refine aw_ret ?_
  rw [head_eq f, h1]; exact ret_id _ (.tmp rfl .nil) rfl trivial rfl rfl
end Go.AL
