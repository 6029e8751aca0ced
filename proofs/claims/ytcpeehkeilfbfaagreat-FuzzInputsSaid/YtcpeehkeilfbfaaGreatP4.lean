/- Parts D4, D5, L1, S5, D6, S6, D7, S7, D8, S8, D9, L2, L3, S9, D10, S10: a logic over abstract states, contracts of the code and plain laws, made from the texts in wip by wip/tools/pack.py. -/
import Derived.Test.YtcpeehkeilfbfaaGreatP3
set_option linter.unusedSimpArgs false
set_option linter.unusedVariables false
namespace Go.AL
open Go.Proofs
theorem u174 : Tryz.prog.underlying 174 = some Tryz.t173.desc := by kernel_rfl
theorem s174 : (Tryz.prog.info? 174).map (·.size) = some 2 := by kernel_rfl
theorem z174 : (Tryz.prog.info? 174).bind (·.zero) = Tryz.t174.zero := by kernel_rfl
theorem b174 : ((Tryz.prog.info? 174).map fun i => Nat.ble i.bytes 1000) = some true := by kernel_rfl
theorem e161 : Enters Tryz.prog 161 := enters_of Tryz.func161 (by kernel_rfl) (by kernel_rfl)
set_option maxRecDepth 100000 in
set_option maxHeartbeats 4000000 in
theorem c161 (f : Fn) (x : Inst) (hf : f.Fits) (hx : x.Fits) : Ok Tryz.prog 161 [.dat none (fnD f), .dat none (instD x)] [] (.tup [.st [.v (.int .i64 (shapeI f x).1), .v (.int .i64 (shapeI f x).2.1)], .v (.bool (shapeI f x).2.2)]) [] := by
  refine ok_of e161 Tryz.func161 rfl (by kernel_rfl) ?_
  intro cx hP hro hN hvk
  obtain ⟨P, ro, w0, Bin, N, R0, tk0, bl0, vk⟩ := cx
  subst hP hro hN
  have hvkd := vkd_of hvk
  have hl := ints_len x.to
  have hu1 : IntKind.u64.wrap x.imm = x.imm := by have := hx.imm; rw [IntKind.wrap_u64]; omega
  have hu2 : IntKind.u64.wrap (f.slots.length : Int) = f.slots.length := by have := hf.slots; rw [IntKind.wrap_u64]; omega
  refine aw_seq ?_
  refine aw_region ?_
  refine al_opc (k := 101) rfl rfl rfl ((hvk _).trans rfl) (opC_box rfl (ev_tmp rfl) rfl) ?_
  refine al_opc (k := 102) rfl rfl rfl ((hvk _).trans rfl) (opC_box rfl (ev_tmp rfl) rfl) ?_
  refine al_opc (k := 103) rfl rfl rfl ((hvk _).trans rfl) (opC_alloc rfl z174) ?_
  refine al_op rfl rfl rfl (opP_assign rfl (ev_const rfl)) ?_
  refine al_nil ?_
  refine aw_seq ?_
  refine aw_region ?_
  refine al_op rfl rfl rfl (opP_fieldAddr rfl (ev_tmp rfl) u38 rfl rfl s3 rfl) ?_
  refine al_op rfl rfl rfl (opP_load_pt rfl u3 rfl (ev_tmp rfl) rfl rfl) ?_
  refine al_call (id) rfl rfl rfl (callOf_func rfl (.cons (ev_tmp rfl) .nil)) (c158 x.w) (by repeat' (first | refine Vw.stDOf ?_ | refine Vw.ptOf rfl rfl rfl ?_ | refine Vw.prvOf ?_ | refine Vw.cloOf ?_ | constructor)) (fun _ h => absurd h (by simp)) rfl rfl rfl (fun _ h => absurd h (by simp)) ?_
  refine al_op rfl rfl rfl (opP_assign rfl (ev_tmp rfl)) ?_
  refine al_nil ?_
  refine aw_seq ?_
  refine aw_seq ?_
  refine aw_region ?_
  refine al_op rfl rfl rfl (opP_fieldAddr rfl (ev_tmp rfl) u38 rfl rfl s3 rfl) ?_
  refine al_op rfl rfl rfl (opP_load_pt rfl u3 rfl (ev_tmp rfl) rfl rfl) ?_
  refine al_call (id) rfl rfl rfl (callOf_func rfl (.cons (ev_tmp rfl) .nil)) (c168 x.op) (by repeat' (first | refine Vw.stDOf ?_ | refine Vw.ptOf rfl rfl rfl ?_ | refine Vw.prvOf ?_ | refine Vw.cloOf ?_ | constructor)) (fun _ h => absurd h (by simp)) rfl rfl rfl (fun _ h => absurd h (by simp)) ?_
  refine al_nil ?_
  refine aw_block ?_
  refine aw_seq ?_
  refine aw_region ?_
  refine al_op rfl rfl rfl (opP_bin rfl (ev_tmp rfl) (ev_const rfl) rfl) ?_
  refine al_op rfl rfl rfl (opP_assign rfl (ev_tmp rfl)) ?_
  refine al_nil ?_
  refine aw_cond rfl (fun h1 => ?_) (fun h1 => ?_)
  · refine aw_seq ?_
    refine aw_region ?_
    refine al_op rfl rfl rfl (opP_fieldAddr rfl (ev_tmp rfl) u38 rfl rfl s3 rfl) ?_
    refine al_op rfl rfl rfl (opP_load_pt rfl u3 rfl (ev_tmp rfl) rfl rfl) ?_
    refine al_call (id) rfl rfl rfl (callOf_func rfl (.cons (ev_tmp rfl) .nil)) (c173 x.w) (by repeat' (first | refine Vw.stDOf ?_ | refine Vw.ptOf rfl rfl rfl ?_ | refine Vw.prvOf ?_ | refine Vw.cloOf ?_ | constructor)) (fun _ h => absurd h (by simp)) rfl rfl rfl (fun _ h => absurd h (by simp)) ?_
    refine al_op rfl rfl rfl (opP_move rfl (ev_tmp rfl)) ?_
    refine al_op rfl rfl rfl (opP_extract rfl (ev_tmp rfl) rfl) ?_
    refine al_op rfl rfl rfl (opP_extract rfl (ev_tmp rfl) rfl) ?_
    refine al_op rfl rfl rfl (opP_assign rfl (ev_tmp rfl)) ?_
    refine al_op rfl rfl rfl (opP_assign rfl (ev_tmp rfl)) ?_
    refine al_nil ?_
    refine aw_seq ?_
    refine aw_draw mixed ?_
    apply ad_mix [⟨0, 23, _, [], []⟩, ⟨1, 24, _, [], []⟩, ⟨2, 25, _, [1], []⟩, ⟨3, 26, _, [1, 2], []⟩, ⟨4, 27, _, [1, 2, 3], []⟩, ⟨5, 28, _, [1, 2, 3, 4], []⟩, ⟨6, 29, _, [1, 2, 3], []⟩, ⟨7, 30, _, [1, 2, 3, 4, 5, 6], []⟩, ⟨8, 31, _, [1, 2, 3, 4, 5, 6, 7], []⟩, ⟨10, 5, _, [0, 1, 2, 3, 4, 5, 6, 7, 8, 9], []⟩] [⟨9, [0, 1, 2, 3], 103, _⟩] (fuelT := 0)
    · skip
      refine .cons rfl (stepD_op rfl (opP_build rfl u174 z174 rfl .nil rfl)) ?_
      refine .cons rfl (stepD_op rfl (opP_move rfl (ev_tmp rfl))) ?_
      refine .cons rfl (stepD_op rfl (opP_bin rfl (ev_tmp rfl) (ev_const rfl) rfl)) ?_
      refine .cons rfl (stepD_op rfl (opP_move rfl (ev_tmp rfl))) ?_
      refine .cons rfl (stepD_opg rfl rfl rfl rfl (opP_fieldAddr rfl (ev_tmp rfl) u38 rfl rfl s36 rfl)) ?_
      refine .cons rfl (stepD_opg rfl rfl rfl rfl (opP_load_pt rfl u36 rfl (ev_when rfl id) rfl rfl)) ?_
      refine .cons rfl (stepD_opg rfl rfl rfl rfl (opP_move rfl (ev_tmp rfl))) ?_
      refine .cons rfl (stepD_opg rfl rfl rfl rfl (opP_bin rfl (ev_when rfl id) (ev_when rfl id) rfl)) ?_
      refine .cons rfl (stepD_op rfl (opP_and rfl (ev_tmp rfl) (ev_when rfl id))) ?_
      refine .cons rfl (stepD_op rfl (opP_assign rfl (ev_tmp rfl))) ?_
      exact .nil
    · skip
      refine .cons rfl (stepC_store rfl rfl rfl s174 (ev_tmp rfl) (ev_tmp rfl) rfl rfl rfl rfl rfl rfl) ?_
      exact .nil
    · rfl
    · exact hvkd _ rfl
    · rfl
    refine ad_done rfl ?_
    refine aw_ret ?_
    exact ret_id ([.st [.v (.int .i64 _), .v (.int .i64 _)], .v (.bool _)]) (.celln' rfl u174 rfl s174 rfl rfl rfl (.tmp rfl .nil)) (by first | (simp [oneOf, shapeI, *]; done) | (cases hw : isW x.w <;> simp [oneOf, shapeI, u32_w, *])) (by first | exact trivial | exact ⟨rfl, trivial⟩ | exact ⟨rfl, rfl, trivial⟩ | exact ⟨rfl, rfl, rfl, trivial⟩ | exact ⟨rfl, rfl, rfl, rfl, trivial⟩) rfl rfl
  refine aw_seq ?_
  refine aw_region ?_
  refine al_op rfl rfl rfl (opP_bin rfl (ev_tmp rfl) (ev_const rfl) rfl) ?_
  refine al_op rfl rfl rfl (opP_assign rfl (ev_tmp rfl)) ?_
  refine al_nil ?_
  refine aw_cond rfl (fun h2 => ?_) (fun h2 => ?_)
  · refine aw_seq ?_
    refine aw_draw mixed ?_
    apply ad_mix [⟨0, 34, _, [], []⟩, ⟨1, 35, _, [], []⟩, ⟨2, 36, _, [1], []⟩, ⟨3, 37, _, [1, 2], []⟩, ⟨4, 38, _, [1, 2, 3], []⟩, ⟨5, 39, _, [1, 2, 3, 4], []⟩, ⟨6, 40, _, [1, 2, 3, 4, 5], []⟩, ⟨8, 5, _, [0, 1, 2, 3, 4, 5, 6, 7], []⟩] [⟨7, [0, 1, 2], 103, _⟩] (fuelT := 0)
    · skip
      refine .cons rfl (stepD_op rfl (opP_build rfl u174 z174 rfl (.cons (ev_const rfl) .nil) rfl)) ?_
      refine .cons rfl (stepD_op rfl (opP_move rfl (ev_tmp rfl))) ?_
      refine .cons rfl (stepD_op rfl (opP_move rfl (ev_tmp rfl))) ?_
      refine .cons rfl (stepD_opg rfl rfl rfl rfl (opP_fieldAddr rfl (ev_tmp rfl) u38 rfl rfl s36 rfl)) ?_
      refine .cons rfl (stepD_opg rfl rfl rfl rfl (opP_load_pt rfl u36 rfl (ev_when rfl id) rfl rfl)) ?_
      refine .cons rfl (stepD_opg rfl rfl rfl rfl (opP_bin rfl (ev_when rfl id) (ev_const rfl) rfl)) ?_
      refine .cons rfl (stepD_op rfl (opP_and rfl (ev_tmp rfl) (ev_when rfl id))) ?_
      refine .cons rfl (stepD_op rfl (opP_assign rfl (ev_tmp rfl))) ?_
      exact .nil
    · skip
      refine .cons rfl (stepC_store rfl rfl rfl s174 (ev_tmp rfl) (ev_tmp rfl) rfl rfl rfl rfl rfl rfl) ?_
      exact .nil
    · rfl
    · exact hvkd _ rfl
    · rfl
    refine ad_done rfl ?_
    refine aw_ret ?_
    exact ret_id ([.st [.v (.int .i64 _), .v (.int .i64 _)], .v (.bool _)]) (.celln' rfl u174 rfl s174 rfl rfl rfl (.tmp rfl .nil)) (by first | (simp [oneOf, shapeI, *]; done) | (cases hw : isW x.w <;> simp [oneOf, shapeI, u32_w, *])) (by first | exact trivial | exact ⟨rfl, trivial⟩ | exact ⟨rfl, rfl, trivial⟩ | exact ⟨rfl, rfl, rfl, trivial⟩ | exact ⟨rfl, rfl, rfl, rfl, trivial⟩) rfl rfl
  refine aw_seq ?_
  refine aw_region ?_
  refine al_op rfl rfl rfl (opP_bin rfl (ev_tmp rfl) (ev_const rfl) rfl) ?_
  refine al_op rfl rfl rfl (opP_assign rfl (ev_tmp rfl)) ?_
  refine al_nil ?_
  refine aw_cond rfl (fun h3 => ?_) (fun h3 => ?_)
  · refine aw_seq ?_
    refine aw_draw mixed ?_
    apply ad_mix [⟨0, 43, _, [], []⟩, ⟨1, 44, _, [], []⟩, ⟨2, 45, _, [1], []⟩, ⟨3, 46, _, [1, 2], []⟩, ⟨4, 47, _, [1, 2, 3], []⟩, ⟨5, 48, _, [1, 2, 3, 4], []⟩, ⟨6, 49, _, [1, 2, 3, 4, 5], []⟩, ⟨7, 50, _, [1, 2, 3, 4, 5, 6], []⟩, ⟨8, 51, _, [1, 2, 3, 4, 5, 6, 7], []⟩, ⟨10, 5, _, [0, 1, 2, 3, 4, 5, 6, 7, 8, 9], []⟩] [⟨9, [0, 1, 2, 3, 4], 103, _⟩] (fuelT := 0)
    · skip
      refine .cons rfl (stepD_op rfl (opP_build rfl u174 z174 rfl (.cons (ev_const rfl) .nil) rfl)) ?_
      refine .cons rfl (stepD_op rfl (opP_fieldAddr rfl (ev_tmp rfl) u38 rfl rfl s3 rfl)) ?_
      refine .cons rfl (stepD_op rfl (opP_load_pt rfl u3 rfl (ev_tmp rfl) rfl rfl)) ?_
      refine .cons rfl (stepD_op rfl (opP_bin rfl (ev_tmp rfl) (ev_const rfl) rfl)) ?_
      refine .cons rfl (stepD_op rfl (opP_move rfl (ev_tmp rfl))) ?_
      refine .cons rfl (stepD_opg rfl rfl rfl rfl (opP_fieldAddr rfl (ev_tmp rfl) u38 rfl rfl s36 rfl)) ?_
      refine .cons rfl (stepD_opg rfl rfl rfl rfl (opP_load_pt rfl u36 rfl (ev_when rfl id) rfl rfl)) ?_
      refine .cons rfl (stepD_opg rfl rfl rfl rfl (opP_bin rfl (ev_when rfl id) (ev_const rfl) rfl)) ?_
      refine .cons rfl (stepD_op rfl (opP_and rfl (ev_tmp rfl) (ev_when rfl id))) ?_
      refine .cons rfl (stepD_op rfl (opP_assign rfl (ev_tmp rfl))) ?_
      exact .nil
    · skip
      refine .cons rfl (stepC_store rfl rfl rfl s174 (ev_tmp rfl) (ev_tmp rfl) rfl rfl rfl rfl rfl rfl) ?_
      exact .nil
    · rfl
    · exact hvkd _ rfl
    · rfl
    refine ad_done rfl ?_
    refine aw_ret ?_
    exact ret_id ([.st [.v (.int .i64 _), .v (.int .i64 _)], .v (.bool _)]) (.celln' rfl u174 rfl s174 rfl rfl rfl (.tmp rfl .nil)) (by first | (simp [oneOf, shapeI, *]; done) | (cases hw : isW x.w <;> simp [oneOf, shapeI, u32_w, *])) (by first | exact trivial | exact ⟨rfl, trivial⟩ | exact ⟨rfl, rfl, trivial⟩ | exact ⟨rfl, rfl, rfl, trivial⟩ | exact ⟨rfl, rfl, rfl, rfl, trivial⟩) rfl rfl
  refine aw_seq ?_
  refine aw_region ?_
  refine al_op rfl rfl rfl (opP_bin rfl (ev_tmp rfl) (ev_const rfl) rfl) ?_
  refine al_op rfl rfl rfl (opP_assign rfl (ev_tmp rfl)) ?_
  refine al_nil ?_
  refine aw_cond rfl (fun h4 => ?_) (fun h4 => ?_)
  · refine aw_seq ?_
    refine aw_draw mixed ?_
    apply ad_mix [⟨0, 54, _, [], []⟩, ⟨1, 55, _, [], []⟩, ⟨2, 56, _, [1], []⟩, ⟨3, 57, _, [1, 2], []⟩, ⟨4, 58, _, [1, 2, 3], []⟩, ⟨5, 59, _, [1, 2, 3, 4], []⟩, ⟨6, 60, _, [1, 2, 3, 4, 5], []⟩, ⟨7, 61, _, [1, 2, 3, 4, 5, 6], []⟩, ⟨8, 62, _, [1, 2, 3, 4, 5, 6, 7], []⟩, ⟨9, 63, _, [1, 2, 3, 4, 5, 6, 7, 8], []⟩, ⟨10, 64, _, [1, 2, 3, 4, 5, 6, 7, 8, 9], []⟩, ⟨11, 65, _, [1, 2, 3, 4, 5, 6, 7, 8, 9, 10], []⟩, ⟨13, 5, _, [0, 1, 2, 3, 4, 5, 6, 7, 8, 9, 10, 11, 12], []⟩] [⟨12, [0, 1, 2, 3, 4, 5, 6, 7], 103, _⟩] (fuelT := 0)
    · skip
      refine .cons rfl (stepD_op rfl (opP_build rfl u174 z174 rfl (.cons (ev_const rfl) .nil) rfl)) ?_
      refine .cons rfl (stepD_op rfl (opP_move rfl (ev_tmp rfl))) ?_
      refine .cons rfl (stepD_op rfl (opP_move rfl (ev_tmp rfl))) ?_
      refine .cons rfl (stepD_opg rfl rfl rfl rfl (opP_fieldAddr rfl (ev_tmp rfl) u38 rfl rfl s3 rfl)) ?_
      refine .cons rfl (stepD_opg rfl rfl rfl rfl (opP_load_pt rfl u3 rfl (ev_when rfl id) rfl rfl)) ?_
      refine .cons rfl (stepD_opg rfl rfl rfl rfl (opP_bin rfl (ev_when rfl id) (ev_const rfl) rfl)) ?_
      refine .cons rfl (stepD_op rfl (opP_or rfl (ev_tmp rfl) (ev_when rfl id))) ?_
      refine .cons rfl (stepD_op rfl (opP_move rfl (ev_tmp rfl))) ?_
      refine .cons rfl (stepD_opg rfl rfl rfl rfl (opP_fieldAddr rfl (ev_tmp rfl) u38 rfl rfl s36 rfl)) ?_
      refine .cons rfl (stepD_opg rfl rfl rfl rfl (opP_load_pt rfl u36 rfl (ev_when rfl id) rfl rfl)) ?_
      refine .cons rfl (stepD_opg rfl rfl rfl rfl (opP_bin rfl (ev_when rfl id) (ev_const rfl) rfl)) ?_
      refine .cons rfl (stepD_op rfl (opP_and rfl (ev_tmp rfl) (ev_when rfl id))) ?_
      refine .cons rfl (stepD_op rfl (opP_assign rfl (ev_tmp rfl))) ?_
      exact .nil
    · skip
      refine .cons rfl (stepC_store rfl rfl rfl s174 (ev_tmp rfl) (ev_tmp rfl) rfl rfl rfl rfl rfl rfl) ?_
      exact .nil
    · rfl
    · exact hvkd _ rfl
    · rfl
    refine ad_done rfl ?_
    refine aw_ret ?_
    exact ret_id ([.st [.v (.int .i64 _), .v (.int .i64 _)], .v (.bool _)]) (.celln' rfl u174 rfl s174 rfl rfl rfl (.tmp rfl .nil)) (by first | (simp [oneOf, shapeI, *]; done) | (cases hw : isW x.w <;> simp [oneOf, shapeI, u32_w, *])) (by first | exact trivial | exact ⟨rfl, trivial⟩ | exact ⟨rfl, rfl, trivial⟩ | exact ⟨rfl, rfl, rfl, trivial⟩ | exact ⟨rfl, rfl, rfl, rfl, trivial⟩) rfl rfl
  refine aw_seq ?_
  refine aw_seq ?_
  refine aw_region ?_
  refine al_op rfl rfl rfl (opP_bin rfl (ev_tmp rfl) (ev_const rfl) rfl) ?_
  refine al_op rfl rfl rfl (opP_assign rfl (ev_tmp rfl)) ?_
  refine al_nil ?_
  refine aw_cond rfl (fun h5 => ?_) (fun h5 => ?_)
  · refine aw_skip ?_
    refine aw_condT rfl h5 ?_
    refine aw_seq ?_
    refine aw_draw mixed ?_
    apply ad_mix [⟨0, 70, _, [], []⟩, ⟨1, 71, _, [], []⟩, ⟨2, 72, _, [1], []⟩, ⟨3, 73, _, [1, 2], []⟩, ⟨4, 74, _, [1, 2, 3], []⟩, ⟨5, 75, _, [1, 2, 3, 4], []⟩, ⟨6, 76, _, [1, 2, 3, 4, 5], []⟩, ⟨8, 5, _, [0, 1, 2, 3, 4, 5, 6, 7], []⟩] [⟨7, [0, 1, 2], 103, _⟩] (fuelT := 0)
    · skip
      refine .cons rfl (stepD_op rfl (opP_build rfl u174 z174 rfl (.cons (ev_const rfl) .nil) rfl)) ?_
      refine .cons rfl (stepD_op rfl (opP_move rfl (ev_tmp rfl))) ?_
      refine .cons rfl (stepD_op rfl (opP_move rfl (ev_tmp rfl))) ?_
      refine .cons rfl (stepD_opg rfl rfl rfl rfl (opP_fieldAddr rfl (ev_tmp rfl) u38 rfl rfl s36 rfl)) ?_
      refine .cons rfl (stepD_opg rfl rfl rfl rfl (opP_load_pt rfl u36 rfl (ev_when rfl id) rfl rfl)) ?_
      refine .cons rfl (stepD_opg rfl rfl rfl rfl (opP_bin rfl (ev_when rfl id) (ev_const rfl) rfl)) ?_
      refine .cons rfl (stepD_op rfl (opP_and rfl (ev_tmp rfl) (ev_when rfl id))) ?_
      refine .cons rfl (stepD_op rfl (opP_assign rfl (ev_tmp rfl))) ?_
      exact .nil
    · skip
      refine .cons rfl (stepC_store rfl rfl rfl s174 (ev_tmp rfl) (ev_tmp rfl) rfl rfl rfl rfl rfl rfl) ?_
      exact .nil
    · rfl
    · exact hvkd _ rfl
    · rfl
    refine ad_done rfl ?_
    refine aw_ret ?_
    exact ret_id ([.st [.v (.int .i64 _), .v (.int .i64 _)], .v (.bool _)]) (.celln' rfl u174 rfl s174 rfl rfl rfl (.tmp rfl .nil)) (by first | (simp [oneOf, shapeI, *]; done) | (cases hw : isW x.w <;> simp [oneOf, shapeI, u32_w, *])) (by first | exact trivial | exact ⟨rfl, trivial⟩ | exact ⟨rfl, rfl, trivial⟩ | exact ⟨rfl, rfl, rfl, trivial⟩ | exact ⟨rfl, rfl, rfl, rfl, trivial⟩) rfl rfl
  refine aw_seq ?_
  refine aw_region ?_
  refine al_op rfl rfl rfl (opP_bin rfl (ev_tmp rfl) (ev_const rfl) rfl) ?_
  refine al_op rfl rfl rfl (opP_assign rfl (ev_tmp rfl)) ?_
  refine al_nil ?_
  refine aw_cond rfl (fun h6 => ?_) (fun h6 => ?_)
  · refine aw_skip ?_
    refine aw_condT rfl h6 ?_
    refine aw_seq ?_
    refine aw_draw mixed ?_
    apply ad_mix [⟨0, 70, _, [], []⟩, ⟨1, 71, _, [], []⟩, ⟨2, 72, _, [1], []⟩, ⟨3, 73, _, [1, 2], []⟩, ⟨4, 74, _, [1, 2, 3], []⟩, ⟨5, 75, _, [1, 2, 3, 4], []⟩, ⟨6, 76, _, [1, 2, 3, 4, 5], []⟩, ⟨8, 5, _, [0, 1, 2, 3, 4, 5, 6, 7], []⟩] [⟨7, [0, 1, 2], 103, _⟩] (fuelT := 0)
    · skip
      refine .cons rfl (stepD_op rfl (opP_build rfl u174 z174 rfl (.cons (ev_const rfl) .nil) rfl)) ?_
      refine .cons rfl (stepD_op rfl (opP_move rfl (ev_tmp rfl))) ?_
      refine .cons rfl (stepD_op rfl (opP_move rfl (ev_tmp rfl))) ?_
      refine .cons rfl (stepD_opg rfl rfl rfl rfl (opP_fieldAddr rfl (ev_tmp rfl) u38 rfl rfl s36 rfl)) ?_
      refine .cons rfl (stepD_opg rfl rfl rfl rfl (opP_load_pt rfl u36 rfl (ev_when rfl id) rfl rfl)) ?_
      refine .cons rfl (stepD_opg rfl rfl rfl rfl (opP_bin rfl (ev_when rfl id) (ev_const rfl) rfl)) ?_
      refine .cons rfl (stepD_op rfl (opP_and rfl (ev_tmp rfl) (ev_when rfl id))) ?_
      refine .cons rfl (stepD_op rfl (opP_assign rfl (ev_tmp rfl))) ?_
      exact .nil
    · skip
      refine .cons rfl (stepC_store rfl rfl rfl s174 (ev_tmp rfl) (ev_tmp rfl) rfl rfl rfl rfl rfl rfl) ?_
      exact .nil
    · rfl
    · exact hvkd _ rfl
    · rfl
    refine ad_done rfl ?_
    refine aw_ret ?_
    exact ret_id ([.st [.v (.int .i64 _), .v (.int .i64 _)], .v (.bool _)]) (.celln' rfl u174 rfl s174 rfl rfl rfl (.tmp rfl .nil)) (by first | (simp [oneOf, shapeI, *]; done) | (cases hw : isW x.w <;> simp [oneOf, shapeI, u32_w, *])) (by first | exact trivial | exact ⟨rfl, trivial⟩ | exact ⟨rfl, rfl, trivial⟩ | exact ⟨rfl, rfl, rfl, trivial⟩ | exact ⟨rfl, rfl, rfl, rfl, trivial⟩) rfl rfl
  refine aw_region ?_
  refine al_op rfl rfl rfl (opP_bin rfl (ev_tmp rfl) (ev_const rfl) rfl) ?_
  refine al_op rfl rfl rfl (opP_assign rfl (ev_tmp rfl)) ?_
  refine al_nil ?_
  refine aw_cond rfl (fun h7 => ?_) (fun h7 => ?_)
  · refine aw_seq ?_
    refine aw_draw mixed ?_
    apply ad_mix [⟨0, 70, _, [], []⟩, ⟨1, 71, _, [], []⟩, ⟨2, 72, _, [1], []⟩, ⟨3, 73, _, [1, 2], []⟩, ⟨4, 74, _, [1, 2, 3], []⟩, ⟨5, 75, _, [1, 2, 3, 4], []⟩, ⟨6, 76, _, [1, 2, 3, 4, 5], []⟩, ⟨8, 5, _, [0, 1, 2, 3, 4, 5, 6, 7], []⟩] [⟨7, [0, 1, 2], 103, _⟩] (fuelT := 0)
    · skip
      refine .cons rfl (stepD_op rfl (opP_build rfl u174 z174 rfl (.cons (ev_const rfl) .nil) rfl)) ?_
      refine .cons rfl (stepD_op rfl (opP_move rfl (ev_tmp rfl))) ?_
      refine .cons rfl (stepD_op rfl (opP_move rfl (ev_tmp rfl))) ?_
      refine .cons rfl (stepD_opg rfl rfl rfl rfl (opP_fieldAddr rfl (ev_tmp rfl) u38 rfl rfl s36 rfl)) ?_
      refine .cons rfl (stepD_opg rfl rfl rfl rfl (opP_load_pt rfl u36 rfl (ev_when rfl id) rfl rfl)) ?_
      refine .cons rfl (stepD_opg rfl rfl rfl rfl (opP_bin rfl (ev_when rfl id) (ev_const rfl) rfl)) ?_
      refine .cons rfl (stepD_op rfl (opP_and rfl (ev_tmp rfl) (ev_when rfl id))) ?_
      refine .cons rfl (stepD_op rfl (opP_assign rfl (ev_tmp rfl))) ?_
      exact .nil
    · skip
      refine .cons rfl (stepC_store rfl rfl rfl s174 (ev_tmp rfl) (ev_tmp rfl) rfl rfl rfl rfl rfl rfl) ?_
      exact .nil
    · rfl
    · exact hvkd _ rfl
    · rfl
    refine ad_done rfl ?_
    refine aw_ret ?_
    exact ret_id ([.st [.v (.int .i64 _), .v (.int .i64 _)], .v (.bool _)]) (.celln' rfl u174 rfl s174 rfl rfl rfl (.tmp rfl .nil)) (by first | (simp [oneOf, shapeI, *]; done) | (cases hw : isW x.w <;> simp [oneOf, shapeI, u32_w, *])) (by first | exact trivial | exact ⟨rfl, trivial⟩ | exact ⟨rfl, rfl, trivial⟩ | exact ⟨rfl, rfl, rfl, trivial⟩ | exact ⟨rfl, rfl, rfl, rfl, trivial⟩) rfl rfl
  refine aw_seq ?_
  refine aw_region ?_
  refine al_op rfl rfl rfl (opP_bin rfl (ev_tmp rfl) (ev_const rfl) rfl) ?_
  refine al_op rfl rfl rfl (opP_assign rfl (ev_tmp rfl)) ?_
  refine al_nil ?_
  refine aw_cond rfl (fun h8 => ?_) (fun h8 => ?_)
  · refine aw_seq ?_
    refine aw_draw mixed ?_
    apply ad_mix [⟨0, 79, _, [], []⟩, ⟨1, 80, _, [], []⟩, ⟨2, 81, _, [1], []⟩, ⟨3, 82, _, [1, 2], []⟩, ⟨4, 83, _, [1, 2, 3], []⟩, ⟨5, 84, _, [1, 2, 3, 4], []⟩, ⟨6, 85, _, [1, 2, 3, 4, 5], []⟩, ⟨7, 86, _, [1, 2, 3, 4, 5, 6], []⟩, ⟨8, 87, _, [1, 2, 3, 4, 5, 6, 7], []⟩, ⟨9, 88, _, [1, 2, 3, 4, 5, 6, 7, 8], []⟩, ⟨10, 89, _, [1, 2, 3, 4, 5, 6, 7], []⟩, ⟨11, 90, _, [1, 2, 3, 4, 5, 6, 7, 10], []⟩, ⟨12, 91, _, [1, 2, 3, 4, 5, 6, 7, 10, 11], []⟩, ⟨13, 92, _, [1, 2, 3, 4, 5, 6, 7, 8, 9, 10, 11, 12], []⟩, ⟨14, 93, _, [1, 2, 3, 4, 5, 6, 7, 8, 9, 10, 11, 12, 13], []⟩, ⟨15, 94, _, [1, 2, 3, 4, 5, 6, 7, 8, 9, 10, 11, 12, 13, 14], []⟩, ⟨16, 95, _, [1, 2, 3, 4, 5, 6, 7, 8, 9, 10, 11, 12, 13, 14, 15], []⟩, ⟨17, 96, _, [1, 2, 3, 4, 5, 6, 7, 8, 9, 10, 11, 12, 13, 14, 15, 16], []⟩, ⟨18, 97, _, [1, 2, 3, 4, 5, 6, 7, 8, 9, 10, 11, 12, 13, 14, 15, 16, 17], []⟩, ⟨19, 98, _, [1, 2, 3, 4, 5, 6, 7, 8, 9, 10, 11, 12, 13, 14, 15], []⟩, ⟨20, 99, _, [1, 2, 3, 4, 5, 6, 7, 8, 9, 10, 11, 12, 13, 14, 15, 19], []⟩, ⟨21, 100, _, [1, 2, 3, 4, 5, 6, 7, 8, 9, 10, 11, 12, 13, 14, 15, 16, 17, 18, 19, 20], []⟩, ⟨22, 101, _, [1, 2, 3, 4, 5, 6, 7, 8, 9, 10, 11, 12, 13, 14, 15, 16, 17, 18, 19, 20, 21], []⟩, ⟨23, 102, _, [1, 2, 3, 4, 5, 6, 7, 8, 9, 10, 11, 12, 13, 14, 15, 16, 17, 18, 19, 20, 21, 22], []⟩, ⟨25, 5, _, [0, 1, 2, 3, 4, 5, 6, 7, 8, 9, 10, 11, 12, 13, 14, 15, 16, 17, 18, 19, 20, 21, 22, 23, 24], []⟩] [⟨24, [0, 1, 2, 3, 4, 5, 6, 7, 8, 9, 10, 11, 12, 13, 14, 15], 103, _⟩] (fuelT := 0)
    · skip
      refine .cons rfl (stepD_op rfl (opP_build rfl u174 z174 rfl (.cons (ev_const rfl) .nil) rfl)) ?_
      refine .cons rfl (stepD_op rfl (opP_move rfl (ev_tmp rfl))) ?_
      refine .cons rfl (stepD_op rfl (opP_move rfl (ev_tmp rfl))) ?_
      refine .cons rfl (stepD_opg rfl rfl rfl rfl (opP_fieldAddr rfl (ev_tmp rfl) u38 rfl rfl s36 rfl)) ?_
      refine .cons rfl (stepD_opg rfl rfl rfl rfl (opP_load_pt rfl u36 rfl (ev_when rfl id) rfl rfl)) ?_
      refine .cons rfl (stepD_opg rfl rfl rfl rfl (opP_bin rfl (ev_when rfl id) (ev_const rfl) rfl)) ?_
      refine .cons rfl (stepD_op rfl (opP_and rfl (ev_tmp rfl) (ev_when rfl id))) ?_
      refine .cons rfl (stepD_op rfl (opP_move rfl (ev_tmp rfl))) ?_
      refine .cons rfl (stepD_opg rfl rfl rfl rfl (opP_fieldAddr rfl (ev_tmp rfl) u38 rfl rfl s36 rfl)) ?_
      refine .cons rfl (stepD_opg rfl rfl rfl rfl (opP_load_pt rfl u36 rfl (ev_when rfl id) rfl rfl)) ?_
      refine .cons rfl (stepD_opg rfl rfl rfl rfl (opP_fieldAddr rfl (ev_tmp rfl) u38 rfl rfl s3 rfl)) ?_
      refine .cons rfl (stepD_opg rfl rfl rfl rfl (opP_load_pt rfl u3 rfl (ev_when rfl id) rfl rfl)) ?_
      refine .cons rfl (stepD_opg rfl rfl rfl rfl (opP_convert rfl (by rw [u3]; rfl) u36 (ev_when rfl id))) ?_
      refine .cons rfl (stepD_opg rfl rfl rfl rfl (opP_bin rfl (ev_when rfl id) (ev_when rfl id) rfl)) ?_
      refine .cons rfl (stepD_op rfl (opP_and rfl (ev_tmp rfl) (ev_when rfl id))) ?_
      refine .cons rfl (stepD_op rfl (opP_move rfl (ev_tmp rfl))) ?_
      refine .cons rfl (stepD_opg rfl rfl rfl rfl (opP_fieldAddr rfl (ev_tmp rfl) u38 rfl rfl s3 rfl)) ?_
      refine .cons rfl (stepD_opg rfl rfl rfl rfl (opP_load_pt rfl u3 rfl (ev_when rfl id) rfl rfl)) ?_
      refine .cons rfl (stepD_opg rfl rfl rfl rfl (opP_convert rfl (by rw [u3]; rfl) u36 (ev_when rfl id))) ?_
      refine .cons rfl (stepD_opg rfl rfl rfl rfl (opP_fieldAddr rfl (ev_tmp rfl) u38 rfl rfl s36 rfl)) ?_
      refine .cons rfl (stepD_opg rfl rfl rfl rfl (opP_load_pt rfl u36 rfl (ev_when rfl id) rfl rfl)) ?_
      refine .cons rfl (stepD_opg rfl rfl rfl rfl (opP_rem rfl (ev_when rfl id) (ev_when rfl id) (fun gd => by simp at gd; omega))) ?_
      refine .cons rfl (stepD_opg rfl rfl rfl rfl (opP_bin rfl (ev_when rfl id) (ev_const rfl) rfl)) ?_
      refine .cons rfl (stepD_op rfl (opP_and rfl (ev_tmp rfl) (ev_when rfl id))) ?_
      refine .cons rfl (stepD_op rfl (opP_assign rfl (ev_tmp rfl))) ?_
      exact .nil
    · skip
      refine .cons rfl (stepC_store rfl rfl rfl s174 (ev_tmp rfl) (ev_tmp rfl) rfl rfl rfl rfl rfl rfl) ?_
      exact .nil
    · rfl
    · exact hvkd _ rfl
    · rfl
    refine ad_done rfl ?_
    refine aw_ret ?_
    exact ret_id ([.st [.v (.int .i64 _), .v (.int .i64 _)], .v (.bool _)]) (.celln' rfl u174 rfl s174 rfl rfl rfl (.tmp rfl .nil)) (by first | (simp [oneOf, shapeI, *]; done) | (cases hw : isW x.w <;> simp [oneOf, shapeI, u32_w, *])) (by first | exact trivial | exact ⟨rfl, trivial⟩ | exact ⟨rfl, rfl, trivial⟩ | exact ⟨rfl, rfl, rfl, trivial⟩ | exact ⟨rfl, rfl, rfl, rfl, trivial⟩) rfl rfl
  refine aw_seq ?_
  refine aw_region ?_
  refine al_op rfl rfl rfl (opP_bin rfl (ev_tmp rfl) (ev_const rfl) rfl) ?_
  refine al_op rfl rfl rfl (opP_assign rfl (ev_tmp rfl)) ?_
  refine al_nil ?_
  refine aw_cond rfl (fun h9 => ?_) (fun h9 => ?_)
  · refine aw_seq ?_
    refine aw_draw mixed ?_
    apply ad_mix [⟨0, 105, _, [], []⟩, ⟨1, 106, _, [], []⟩, ⟨2, 107, _, [1], []⟩, ⟨3, 108, _, [1, 2], []⟩, ⟨4, 109, _, [1, 2, 3], []⟩, ⟨5, 110, _, [1, 2, 3, 4], []⟩, ⟨6, 111, _, [1, 2, 3, 4, 5], []⟩, ⟨8, 5, _, [0, 1, 2, 3, 4, 5, 6, 7], []⟩] [⟨7, [0, 1, 2], 103, _⟩] (fuelT := 0)
    · skip
      refine .cons rfl (stepD_op rfl (opP_build rfl u174 z174 rfl .nil rfl)) ?_
      refine .cons rfl (stepD_op rfl (opP_move rfl (ev_tmp rfl))) ?_
      refine .cons rfl (stepD_op rfl (opP_move rfl (ev_tmp rfl))) ?_
      refine .cons rfl (stepD_opg rfl rfl rfl rfl (opP_fieldAddr rfl (ev_tmp rfl) u38 rfl rfl s36 rfl)) ?_
      refine .cons rfl (stepD_opg rfl rfl rfl rfl (opP_load_pt rfl u36 rfl (ev_when rfl id) rfl rfl)) ?_
      refine .cons rfl (stepD_opg rfl rfl rfl rfl (opP_bin rfl (ev_when rfl id) (ev_const rfl) rfl)) ?_
      refine .cons rfl (stepD_op rfl (opP_and rfl (ev_tmp rfl) (ev_when rfl id))) ?_
      refine .cons rfl (stepD_op rfl (opP_assign rfl (ev_tmp rfl))) ?_
      exact .nil
    · skip
      refine .cons rfl (stepC_store rfl rfl rfl s174 (ev_tmp rfl) (ev_tmp rfl) rfl rfl rfl rfl rfl rfl) ?_
      exact .nil
    · rfl
    · exact hvkd _ rfl
    · rfl
    refine ad_done rfl ?_
    refine aw_ret ?_
    exact ret_id ([.st [.v (.int .i64 _), .v (.int .i64 _)], .v (.bool _)]) (.celln' rfl u174 rfl s174 rfl rfl rfl (.tmp rfl .nil)) (by first | (simp [oneOf, shapeI, *]; done) | (cases hw : isW x.w <;> simp [oneOf, shapeI, u32_w, *])) (by first | exact trivial | exact ⟨rfl, trivial⟩ | exact ⟨rfl, rfl, trivial⟩ | exact ⟨rfl, rfl, rfl, trivial⟩ | exact ⟨rfl, rfl, rfl, rfl, trivial⟩) rfl rfl
  refine aw_seq ?_
  refine aw_region ?_
  refine al_op rfl rfl rfl (opP_bin rfl (ev_tmp rfl) (ev_const rfl) rfl) ?_
  refine al_op rfl rfl rfl (opP_assign rfl (ev_tmp rfl)) ?_
  refine al_nil ?_
  refine aw_cond rfl (fun h10 => ?_) (fun h10 => ?_)
  · refine aw_seq ?_
    refine aw_draw mixed ?_
    apply ad_mix [⟨0, 114, _, [], []⟩, ⟨1, 115, _, [], []⟩, ⟨2, 116, _, [1], []⟩, ⟨3, 117, _, [1, 2], []⟩, ⟨4, 118, _, [1, 2, 3], []⟩, ⟨5, 119, _, [1, 2, 3, 4], []⟩, ⟨6, 120, _, [1, 2, 3, 4, 5], []⟩, ⟨7, 121, _, [1, 2, 3, 4, 5, 6], []⟩, ⟨8, 122, _, [1, 2, 3, 4], []⟩, ⟨9, 123, _, [1, 2, 3, 4, 8], []⟩, ⟨10, 124, _, [1, 2, 3, 4, 8, 9], []⟩, ⟨11, 125, _, [1, 2, 3, 4, 8, 9, 10], []⟩, ⟨12, 126, _, [1, 2, 3, 4, 5, 6, 7, 8, 9, 10, 11], []⟩, ⟨13, 127, _, [1, 2, 3, 4, 5, 6, 7, 8, 9, 10, 11, 12], []⟩, ⟨15, 5, _, [0, 1, 2, 3, 4, 5, 6, 7, 8, 9, 10, 11, 12, 13, 14], []⟩] [⟨14, [0, 1, 2, 3, 4], 103, _⟩] (fuelT := 0)
    · skip
      refine .cons rfl (stepD_op rfl (opP_build rfl u174 z174 rfl .nil rfl)) ?_
      refine .cons rfl (stepD_op rfl (opP_fieldAddr rfl (ev_tmp rfl) u38 rfl rfl s3 rfl)) ?_
      refine .cons rfl (stepD_op rfl (opP_load_pt rfl u3 rfl (ev_tmp rfl) rfl rfl)) ?_
      refine .cons rfl (stepD_op rfl (opP_bin rfl (ev_tmp rfl) (ev_const rfl) rfl)) ?_
      refine .cons rfl (stepD_op rfl (opP_move rfl (ev_tmp rfl))) ?_
      refine .cons rfl (stepD_opg rfl rfl rfl rfl (opP_fieldAddr rfl (ev_tmp rfl) u38 rfl rfl s36 rfl)) ?_
      refine .cons rfl (stepD_opg rfl rfl rfl rfl (opP_load_pt rfl u36 rfl (ev_when rfl id) rfl rfl)) ?_
      refine .cons rfl (stepD_opg rfl rfl rfl rfl (opP_convert rfl (by rw [u36]; rfl) u166 (ev_when rfl id))) ?_
      refine .cons rfl (stepD_opg rfl rfl rfl rfl (opP_fieldAddr rfl (ev_tmp rfl) u27 rfl rfl s22 rfl)) ?_
      refine .cons rfl (stepD_opg rfl rfl rfl rfl (opP_load_pt rfl u22 rfl (ev_when rfl id) rfl rfl)) ?_
      refine .cons rfl (stepD_opg rfl rfl rfl rfl (opP_len rfl u22 (ev_when rfl id) (by first | exact lenA_ints | exact lenA_map | rfl))) ?_
      refine .cons rfl (stepD_opg rfl rfl rfl rfl (opP_convert rfl (by rw [u3]; rfl) u166 (ev_when rfl id))) ?_
      refine .cons rfl (stepD_opg rfl rfl rfl rfl (opP_bin rfl (ev_when rfl id) (ev_when rfl id) rfl)) ?_
      refine .cons rfl (stepD_op rfl (opP_and rfl (ev_tmp rfl) (ev_when rfl id))) ?_
      refine .cons rfl (stepD_op rfl (opP_assign rfl (ev_tmp rfl))) ?_
      exact .nil
    · skip
      refine .cons rfl (stepC_store rfl rfl rfl s174 (ev_tmp rfl) (ev_tmp rfl) rfl rfl rfl rfl rfl rfl) ?_
      exact .nil
    · rfl
    · exact hvkd _ rfl
    · rfl
    refine ad_done rfl ?_
    refine aw_ret ?_
    exact ret_id ([.st [.v (.int .i64 _), .v (.int .i64 _)], .v (.bool _)]) (.celln' rfl u174 rfl s174 rfl rfl rfl (.tmp rfl .nil)) (by first | (simp [oneOf, shapeI, *]; done) | (cases hw : isW x.w <;> simp [oneOf, shapeI, u32_w, *])) (by first | exact trivial | exact ⟨rfl, trivial⟩ | exact ⟨rfl, rfl, trivial⟩ | exact ⟨rfl, rfl, rfl, trivial⟩ | exact ⟨rfl, rfl, rfl, rfl, trivial⟩) rfl rfl
  refine aw_seq ?_
  refine aw_region ?_
  refine al_op rfl rfl rfl (opP_bin rfl (ev_tmp rfl) (ev_const rfl) rfl) ?_
  refine al_op rfl rfl rfl (opP_assign rfl (ev_tmp rfl)) ?_
  refine al_nil ?_
  refine aw_cond rfl (fun h11 => ?_) (fun h11 => ?_)
  · refine aw_seq ?_
    refine aw_draw mixed ?_
    apply ad_mix [⟨0, 130, _, [], []⟩, ⟨1, 131, _, [], []⟩, ⟨2, 132, _, [1], []⟩, ⟨3, 133, _, [1, 2], []⟩, ⟨4, 134, _, [1, 2, 3], []⟩, ⟨5, 135, _, [1, 2, 3, 4], []⟩, ⟨6, 136, _, [1, 2, 3, 4, 5], []⟩, ⟨7, 137, _, [1, 2, 3, 4, 5, 6], []⟩, ⟨8, 138, _, [1, 2, 3, 4, 5, 6, 7], []⟩, ⟨10, 5, _, [0, 1, 2, 3, 4, 5, 6, 7, 8, 9], []⟩] [⟨9, [0, 1, 2, 3, 4], 103, _⟩] (fuelT := 0)
    · skip
      refine .cons rfl (stepD_op rfl (opP_build rfl u174 z174 rfl (.cons (ev_const rfl) .nil) rfl)) ?_
      refine .cons rfl (stepD_op rfl (opP_fieldAddr rfl (ev_tmp rfl) u38 rfl rfl s3 rfl)) ?_
      refine .cons rfl (stepD_op rfl (opP_load_pt rfl u3 rfl (ev_tmp rfl) rfl rfl)) ?_
      refine .cons rfl (stepD_op rfl (opP_bin rfl (ev_tmp rfl) (ev_const rfl) rfl)) ?_
      refine .cons rfl (stepD_op rfl (opP_move rfl (ev_tmp rfl))) ?_
      refine .cons rfl (stepD_opg rfl rfl rfl rfl (opP_fieldAddr rfl (ev_tmp rfl) u38 rfl rfl s36 rfl)) ?_
      refine .cons rfl (stepD_opg rfl rfl rfl rfl (opP_load_pt rfl u36 rfl (ev_when rfl id) rfl rfl)) ?_
      refine .cons rfl (stepD_opg rfl rfl rfl rfl (opP_bin rfl (ev_when rfl id) (ev_const rfl) rfl)) ?_
      refine .cons rfl (stepD_op rfl (opP_and rfl (ev_tmp rfl) (ev_when rfl id))) ?_
      refine .cons rfl (stepD_op rfl (opP_assign rfl (ev_tmp rfl))) ?_
      exact .nil
    · skip
      refine .cons rfl (stepC_store rfl rfl rfl s174 (ev_tmp rfl) (ev_tmp rfl) rfl rfl rfl rfl rfl rfl) ?_
      exact .nil
    · rfl
    · exact hvkd _ rfl
    · rfl
    refine ad_done rfl ?_
    refine aw_ret ?_
    exact ret_id ([.st [.v (.int .i64 _), .v (.int .i64 _)], .v (.bool _)]) (.celln' rfl u174 rfl s174 rfl rfl rfl (.tmp rfl .nil)) (by first | (simp [oneOf, shapeI, *]; done) | (cases hw : isW x.w <;> simp [oneOf, shapeI, u32_w, *])) (by first | exact trivial | exact ⟨rfl, trivial⟩ | exact ⟨rfl, rfl, trivial⟩ | exact ⟨rfl, rfl, rfl, trivial⟩ | exact ⟨rfl, rfl, rfl, rfl, trivial⟩) rfl rfl
  refine aw_seq ?_
  refine aw_region ?_
  refine al_op rfl rfl rfl (opP_bin rfl (ev_tmp rfl) (ev_const rfl) rfl) ?_
  refine al_op rfl rfl rfl (opP_assign rfl (ev_tmp rfl)) ?_
  refine al_nil ?_
  refine aw_cond rfl (fun h12 => ?_) (fun h12 => ?_)
  · refine aw_seq ?_
    refine aw_draw mixed ?_
    apply ad_mix [⟨0, 141, _, [], []⟩, ⟨1, 142, _, [], []⟩, ⟨2, 143, _, [1], []⟩, ⟨3, 144, _, [1, 2], []⟩, ⟨4, 145, _, [1, 2, 3], []⟩, ⟨5, 146, _, [1, 2, 3, 4], []⟩, ⟨6, 147, _, [1, 2, 3, 4, 5], []⟩, ⟨7, 148, _, [1, 2, 3, 4, 5, 6], []⟩, ⟨8, 149, _, [1, 2, 3, 4, 5, 6, 7], []⟩, ⟨10, 5, _, [0, 1, 2, 3, 4, 5, 6, 7, 8, 9], []⟩] [⟨9, [0, 1, 2, 3, 4], 103, _⟩] (fuelT := 0)
    · skip
      refine .cons rfl (stepD_op rfl (opP_build rfl u174 z174 rfl (.cons (ev_const rfl) .nil) rfl)) ?_
      refine .cons rfl (stepD_op rfl (opP_fieldAddr rfl (ev_tmp rfl) u38 rfl rfl s3 rfl)) ?_
      refine .cons rfl (stepD_op rfl (opP_load_pt rfl u3 rfl (ev_tmp rfl) rfl rfl)) ?_
      refine .cons rfl (stepD_call (id) rfl (callOf_func rfl (.cons (ev_tmp rfl) .nil)) (c169 x.w) (by repeat' (first | refine Vw.stDOf ?_ | refine Vw.ptOf rfl rfl rfl ?_ | refine Vw.prvOf ?_ | refine Vw.cloOf ?_ | constructor)) rfl rfl rfl (fun _ => rfl) (fun _ => rfl)) ?_
      refine .cons rfl (stepD_op rfl (opP_move rfl (ev_tmp rfl))) ?_
      refine .cons rfl (stepD_opg rfl rfl rfl rfl (opP_fieldAddr rfl (ev_tmp rfl) u38 rfl rfl s36 rfl)) ?_
      refine .cons rfl (stepD_opg rfl rfl rfl rfl (opP_load_pt rfl u36 rfl (ev_when rfl id) rfl rfl)) ?_
      refine .cons rfl (stepD_opg rfl rfl rfl rfl (opP_bin rfl (ev_when rfl id) (ev_const rfl) rfl)) ?_
      refine .cons rfl (stepD_op rfl (opP_and rfl (ev_tmp rfl) (ev_when rfl id))) ?_
      refine .cons rfl (stepD_op rfl (opP_assign rfl (ev_tmp rfl))) ?_
      exact .nil
    · skip
      refine .cons rfl (stepC_store rfl rfl rfl s174 (ev_tmp rfl) (ev_tmp rfl) rfl rfl rfl rfl rfl rfl) ?_
      exact .nil
    · rfl
    · exact hvkd _ rfl
    · rfl
    refine ad_done rfl ?_
    refine aw_ret ?_
    exact ret_id ([.st [.v (.int .i64 _), .v (.int .i64 _)], .v (.bool _)]) (.celln' rfl u174 rfl s174 rfl rfl rfl (.tmp rfl .nil)) (by first | (simp [oneOf, shapeI, *]; done) | (cases hw : isW x.w <;> simp [oneOf, shapeI, u32_w, *])) (by first | exact trivial | exact ⟨rfl, trivial⟩ | exact ⟨rfl, rfl, trivial⟩ | exact ⟨rfl, rfl, rfl, trivial⟩ | exact ⟨rfl, rfl, rfl, rfl, trivial⟩) rfl rfl
  refine aw_seq ?_
  refine aw_region ?_
  refine al_op rfl rfl rfl (opP_bin rfl (ev_tmp rfl) (ev_const rfl) rfl) ?_
  refine al_op rfl rfl rfl (opP_assign rfl (ev_tmp rfl)) ?_
  refine al_nil ?_
  refine aw_cond rfl (fun h13 => ?_) (fun h13 => ?_)
  · refine aw_seq ?_
    refine aw_draw mixed ?_
    apply ad_mix [⟨0, 152, _, [], []⟩, ⟨1, 153, _, [], []⟩, ⟨2, 154, _, [1], []⟩, ⟨3, 155, _, [1, 2], []⟩, ⟨4, 156, _, [1, 2, 3], []⟩, ⟨5, 157, _, [1, 2, 3, 4], []⟩, ⟨6, 158, _, [1, 2, 3, 4, 5], []⟩, ⟨7, 159, _, [1, 2, 3, 4, 5, 6], []⟩, ⟨8, 160, _, [1, 2, 3, 4, 5, 6, 7], []⟩, ⟨10, 5, _, [0, 1, 2, 3, 4, 5, 6, 7, 8, 9], []⟩] [⟨9, [0, 1, 2, 3, 4], 103, _⟩] (fuelT := 0)
    · skip
      refine .cons rfl (stepD_op rfl (opP_build rfl u174 z174 rfl (.cons (ev_const rfl) .nil) rfl)) ?_
      refine .cons rfl (stepD_op rfl (opP_fieldAddr rfl (ev_tmp rfl) u38 rfl rfl s3 rfl)) ?_
      refine .cons rfl (stepD_op rfl (opP_load_pt rfl u3 rfl (ev_tmp rfl) rfl rfl)) ?_
      refine .cons rfl (stepD_op rfl (opP_bin rfl (ev_tmp rfl) (ev_const rfl) rfl)) ?_
      refine .cons rfl (stepD_op rfl (opP_move rfl (ev_tmp rfl))) ?_
      refine .cons rfl (stepD_opg rfl rfl rfl rfl (opP_fieldAddr rfl (ev_tmp rfl) u38 rfl rfl s36 rfl)) ?_
      refine .cons rfl (stepD_opg rfl rfl rfl rfl (opP_load_pt rfl u36 rfl (ev_when rfl id) rfl rfl)) ?_
      refine .cons rfl (stepD_opg rfl rfl rfl rfl (opP_bin rfl (ev_when rfl id) (ev_const rfl) rfl)) ?_
      refine .cons rfl (stepD_op rfl (opP_and rfl (ev_tmp rfl) (ev_when rfl id))) ?_
      refine .cons rfl (stepD_op rfl (opP_assign rfl (ev_tmp rfl))) ?_
      exact .nil
    · skip
      refine .cons rfl (stepC_store rfl rfl rfl s174 (ev_tmp rfl) (ev_tmp rfl) rfl rfl rfl rfl rfl rfl) ?_
      exact .nil
    · rfl
    · exact hvkd _ rfl
    · rfl
    refine ad_done rfl ?_
    refine aw_ret ?_
    exact ret_id ([.st [.v (.int .i64 _), .v (.int .i64 _)], .v (.bool _)]) (.celln' rfl u174 rfl s174 rfl rfl rfl (.tmp rfl .nil)) (by first | (simp [oneOf, shapeI, *]; done) | (cases hw : isW x.w <;> simp [oneOf, shapeI, u32_w, *])) (by first | exact trivial | exact ⟨rfl, trivial⟩ | exact ⟨rfl, rfl, trivial⟩ | exact ⟨rfl, rfl, rfl, trivial⟩ | exact ⟨rfl, rfl, rfl, rfl, trivial⟩) rfl rfl
  refine aw_seq ?_
  refine aw_region ?_
  refine al_op rfl rfl rfl (opP_bin rfl (ev_tmp rfl) (ev_const rfl) rfl) ?_
  refine al_op rfl rfl rfl (opP_assign rfl (ev_tmp rfl)) ?_
  refine al_nil ?_
  refine aw_cond rfl (fun h14 => ?_) (fun h14 => ?_)
  · refine aw_seq ?_
    refine aw_draw mixed ?_
    apply ad_mix [⟨0, 163, _, [], []⟩, ⟨1, 164, _, [0], []⟩, ⟨2, 165, _, [0, 1], []⟩, ⟨3, 166, _, [], []⟩, ⟨4, 167, _, [3], []⟩, ⟨5, 168, _, [3, 4], []⟩, ⟨6, 169, _, [0, 1, 2, 3, 4, 5], []⟩, ⟨7, 170, _, [], []⟩, ⟨8, 171, _, [7], []⟩, ⟨9, 172, _, [7, 8], []⟩, ⟨10, 173, _, [7, 8, 9], []⟩, ⟨11, 174, _, [7, 8, 9, 10], []⟩, ⟨12, 175, _, [7, 8, 9, 10, 11], []⟩, ⟨13, 176, _, [7, 8, 9, 10, 11, 12], []⟩, ⟨14, 177, _, [7, 8, 9, 10, 11, 12, 13], []⟩, ⟨15, 178, _, [7, 8, 9, 10, 11, 12, 13, 14], []⟩, ⟨16, 179, _, [7, 8, 9, 10, 11, 12, 13, 14, 15], []⟩, ⟨17, 180, _, [7, 8, 9, 10, 11, 12, 13, 14, 15, 16], []⟩, ⟨18, 181, _, [7, 8, 9, 10, 11, 12, 13, 14, 15, 16, 17], []⟩, ⟨19, 182, _, [7, 8, 9, 10, 11, 12, 13, 14, 15, 16, 17, 18], []⟩, ⟨20, 183, _, [7, 8, 9, 10, 11, 12, 13, 14, 15, 16, 17, 18, 19], []⟩, ⟨21, 184, _, [7, 8, 9, 10, 11, 12, 13, 14, 15, 16, 17, 18, 19, 20], []⟩, ⟨22, 185, _, [7, 8, 9, 10, 11, 12, 13, 14, 15, 16, 17, 18, 19, 20, 21], []⟩, ⟨23, 186, _, [7, 8, 9, 10, 11, 12, 13, 14, 15, 16, 17, 18, 19, 20, 21, 22], []⟩, ⟨25, 5, _, [0, 1, 2, 3, 4, 5, 6, 7, 8, 9, 10, 11, 12, 13, 14, 15, 16, 17, 18, 19, 20, 21, 22, 23, 24], []⟩] [⟨24, [0, 1, 2, 3, 4, 5, 6, 7, 8, 9, 10, 11, 12, 13, 14, 15, 16, 17, 18], 103, _⟩] (fuelT := 0)
    · skip
      refine .cons rfl (stepD_op rfl (opP_fieldAddr rfl (ev_tmp rfl) u38 rfl rfl s22 rfl)) ?_
      refine .cons rfl (stepD_op rfl (opP_load_pt rfl u22 rfl (ev_tmp rfl) rfl rfl)) ?_
      refine .cons rfl (stepD_op rfl (opP_len rfl u22 (ev_tmp rfl) (by first | exact lenA_ints | exact lenA_map | rfl))) ?_
      refine .cons rfl (stepD_op rfl (opP_fieldAddr rfl (ev_tmp rfl) u38 rfl rfl s22 rfl)) ?_
      refine .cons rfl (stepD_op rfl (opP_load_pt rfl u22 rfl (ev_tmp rfl) rfl rfl)) ?_
      refine .cons rfl (stepD_op rfl (opP_len rfl u22 (ev_tmp rfl) (by first | exact lenA_ints | exact lenA_map | rfl))) ?_
      refine .cons rfl (stepD_op rfl (opP_build rfl u174 z174 rfl (.cons (ev_tmp rfl) (.cons (ev_tmp rfl) .nil)) rfl)) ?_
      refine .cons rfl (stepD_op rfl (opP_move rfl (ev_tmp rfl))) ?_
      refine .cons rfl (stepD_op rfl (opP_move rfl (ev_tmp rfl))) ?_
      refine .cons rfl (stepD_opg rfl rfl rfl rfl (opP_fieldAddr rfl (ev_tmp rfl) u38 rfl rfl s3 rfl)) ?_
      refine .cons rfl (stepD_opg rfl rfl rfl rfl (opP_load_pt rfl u3 rfl (ev_when rfl id) rfl rfl)) ?_
      refine .cons rfl (stepD_opg rfl rfl rfl rfl (opP_bin rfl (ev_when rfl id) (ev_const rfl) rfl)) ?_
      refine .cons rfl (stepD_op rfl (opP_or rfl (ev_tmp rfl) (ev_when rfl id))) ?_
      refine .cons rfl (stepD_op rfl (opP_move rfl (ev_tmp rfl))) ?_
      refine .cons rfl (stepD_opg rfl rfl rfl rfl (opP_fieldAddr rfl (ev_tmp rfl) u38 rfl rfl s36 rfl)) ?_
      refine .cons rfl (stepD_opg rfl rfl rfl rfl (opP_load_pt rfl u36 rfl (ev_when rfl id) rfl rfl)) ?_
      refine .cons rfl (stepD_opg rfl rfl rfl rfl (opP_bin rfl (ev_when rfl id) (ev_const rfl) rfl)) ?_
      refine .cons rfl (stepD_op rfl (opP_and rfl (ev_tmp rfl) (ev_when rfl id))) ?_
      refine .cons rfl (stepD_op rfl (opP_move rfl (ev_tmp rfl))) ?_
      refine .cons rfl (stepD_opg rfl rfl rfl rfl (opP_fieldAddr rfl (ev_tmp rfl) u38 rfl rfl s22 rfl)) ?_
      refine .cons rfl (stepD_opg rfl rfl rfl rfl (opP_load_pt rfl u22 rfl (ev_when rfl id) rfl rfl)) ?_
      refine .cons rfl (stepD_opg rfl rfl rfl rfl (opP_len rfl u22 (ev_when rfl id) (by first | exact lenA_ints | exact lenA_map | rfl))) ?_
      refine .cons rfl (stepD_opg rfl rfl rfl rfl (opP_bin rfl (ev_when rfl id) (ev_const rfl) rfl)) ?_
      refine .cons rfl (stepD_op rfl (opP_and rfl (ev_tmp rfl) (ev_when rfl id))) ?_
      refine .cons rfl (stepD_op rfl (opP_assign rfl (ev_tmp rfl))) ?_
      exact .nil
    · skip
      refine .cons rfl (stepC_store rfl rfl rfl s174 (ev_tmp rfl) (ev_tmp rfl) rfl rfl rfl rfl rfl rfl) ?_
      exact .nil
    · rfl
    · exact hvkd _ rfl
    · rfl
    refine ad_done rfl ?_
    refine aw_ret ?_
    exact ret_id ([.st [.v (.int .i64 _), .v (.int .i64 _)], .v (.bool _)]) (.celln' rfl u174 rfl s174 rfl rfl rfl (.tmp rfl .nil)) (by first | (simp [oneOf, shapeI, *]; done) | (cases hw : isW x.w <;> simp [oneOf, shapeI, u32_w, *])) (by first | exact trivial | exact ⟨rfl, trivial⟩ | exact ⟨rfl, rfl, trivial⟩ | exact ⟨rfl, rfl, rfl, trivial⟩ | exact ⟨rfl, rfl, rfl, rfl, trivial⟩) rfl rfl
  refine aw_seq ?_
  refine aw_region ?_
  refine al_op rfl rfl rfl (opP_bin rfl (ev_tmp rfl) (ev_const rfl) rfl) ?_
  refine al_op rfl rfl rfl (opP_assign rfl (ev_tmp rfl)) ?_
  refine al_nil ?_
  refine aw_cond rfl (fun h15 => ?_) (fun h15 => ?_)
  · refine aw_seq ?_
    refine aw_draw mixed ?_
    apply ad_mix [⟨0, 189, _, [], []⟩, ⟨1, 190, _, [], []⟩, ⟨2, 191, _, [1], []⟩, ⟨3, 192, _, [1, 2], []⟩, ⟨4, 193, _, [1, 2, 3], []⟩, ⟨5, 194, _, [1, 2, 3, 4], []⟩, ⟨6, 195, _, [1, 2, 3, 4, 5], []⟩, ⟨7, 196, _, [1, 2, 3, 4, 5, 6], []⟩, ⟨8, 197, _, [1, 2, 3, 4, 5, 6, 7], []⟩, ⟨10, 5, _, [0, 1, 2, 3, 4, 5, 6, 7, 8, 9], []⟩] [⟨9, [0, 1, 2, 3, 4], 103, _⟩] (fuelT := 0)
    · skip
      refine .cons rfl (stepD_op rfl (opP_build rfl u174 z174 rfl (.cons (ev_const rfl) .nil) rfl)) ?_
      refine .cons rfl (stepD_op rfl (opP_fieldAddr rfl (ev_tmp rfl) u38 rfl rfl s3 rfl)) ?_
      refine .cons rfl (stepD_op rfl (opP_load_pt rfl u3 rfl (ev_tmp rfl) rfl rfl)) ?_
      refine .cons rfl (stepD_op rfl (opP_bin rfl (ev_tmp rfl) (ev_const rfl) rfl)) ?_
      refine .cons rfl (stepD_op rfl (opP_move rfl (ev_tmp rfl))) ?_
      refine .cons rfl (stepD_opg rfl rfl rfl rfl (opP_fieldAddr rfl (ev_tmp rfl) u38 rfl rfl s36 rfl)) ?_
      refine .cons rfl (stepD_opg rfl rfl rfl rfl (opP_load_pt rfl u36 rfl (ev_when rfl id) rfl rfl)) ?_
      refine .cons rfl (stepD_opg rfl rfl rfl rfl (opP_bin rfl (ev_when rfl id) (ev_const rfl) rfl)) ?_
      refine .cons rfl (stepD_op rfl (opP_and rfl (ev_tmp rfl) (ev_when rfl id))) ?_
      refine .cons rfl (stepD_op rfl (opP_assign rfl (ev_tmp rfl))) ?_
      exact .nil
    · skip
      refine .cons rfl (stepC_store rfl rfl rfl s174 (ev_tmp rfl) (ev_tmp rfl) rfl rfl rfl rfl rfl rfl) ?_
      exact .nil
    · rfl
    · exact hvkd _ rfl
    · rfl
    refine ad_done rfl ?_
    refine aw_ret ?_
    exact ret_id ([.st [.v (.int .i64 _), .v (.int .i64 _)], .v (.bool _)]) (.celln' rfl u174 rfl s174 rfl rfl rfl (.tmp rfl .nil)) (by first | (simp [oneOf, shapeI, *]; done) | (cases hw : isW x.w <;> simp [oneOf, shapeI, u32_w, *])) (by first | exact trivial | exact ⟨rfl, trivial⟩ | exact ⟨rfl, rfl, trivial⟩ | exact ⟨rfl, rfl, rfl, trivial⟩ | exact ⟨rfl, rfl, rfl, rfl, trivial⟩) rfl rfl
  refine aw_seq ?_
  refine aw_region ?_
  refine al_op rfl rfl rfl (opP_bin rfl (ev_tmp rfl) (ev_const rfl) rfl) ?_
  refine al_op rfl rfl rfl (opP_assign rfl (ev_tmp rfl)) ?_
  refine al_nil ?_
  refine aw_cond rfl (fun h16 => ?_) (fun h16 => ?_)
  · refine aw_seq ?_
    refine aw_draw mixed ?_
    apply ad_mix [⟨0, 200, _, [], []⟩, ⟨1, 201, _, [], []⟩, ⟨2, 202, _, [1], []⟩, ⟨3, 203, _, [1, 2], []⟩, ⟨4, 204, _, [1, 2, 3], []⟩, ⟨5, 205, _, [1, 2, 3, 4], []⟩, ⟨6, 206, _, [1, 2, 3, 4, 5], []⟩, ⟨7, 207, _, [1, 2, 3, 4, 5, 6], []⟩, ⟨8, 208, _, [1, 2, 3, 4, 5, 6, 7], []⟩, ⟨9, 209, _, [1, 2, 3, 4, 5, 6, 7, 8], []⟩, ⟨10, 210, _, [1, 2, 3, 4, 5, 6, 7, 8, 9], []⟩, ⟨11, 211, _, [1, 2, 3, 4, 5, 6, 7, 8, 9, 10], []⟩, ⟨12, 212, _, [1, 2, 3, 4, 5, 6, 7, 8, 9, 10, 11], []⟩, ⟨13, 213, _, [1, 2, 3, 4, 5, 6, 7, 8, 9, 10, 11, 12], []⟩, ⟨14, 214, _, [1, 2, 3, 4, 5, 6, 7, 8, 9, 10, 11, 12, 13], []⟩, ⟨15, 215, _, [1, 2, 3, 4, 5, 6, 7, 8, 9, 10, 11, 12, 13, 14], []⟩, ⟨16, 216, _, [1, 2, 3, 4, 5, 6, 7, 8, 9, 10, 11, 12, 13, 14, 15], []⟩, ⟨17, 217, _, [1, 2, 3, 4, 5, 6, 7, 8, 9, 10, 11, 12, 13, 14, 15, 16], []⟩, ⟨18, 218, _, [1, 2, 3, 4, 5, 6, 7, 8, 9, 10, 11, 12, 13, 14, 15, 16, 17], []⟩, ⟨19, 219, _, [1, 2, 3, 4, 5, 6, 7, 8, 9, 10, 11, 12, 13, 14], []⟩, ⟨20, 220, _, [1, 2, 3, 4, 5, 6, 7, 8, 9, 10, 11, 12, 13, 14, 19], []⟩, ⟨21, 221, _, [1, 2, 3, 4, 5, 6, 7, 8, 9, 10, 11, 12, 13, 14, 19, 20], []⟩, ⟨22, 222, _, [1, 2, 3, 4, 5, 6, 7, 8, 9, 10, 11, 12, 13, 14, 19, 20, 21], []⟩, ⟨23, 223, _, [1, 2, 3, 4, 5, 6, 7, 8, 9, 10, 11, 12, 13, 14, 15, 16, 17, 18, 19, 20, 21, 22], []⟩, ⟨24, 224, _, [1, 2, 3, 4, 5, 6, 7, 8, 9, 10, 11, 12, 13, 14, 15, 16, 17, 18, 19, 20, 21, 22, 23], []⟩, ⟨25, 225, _, [1, 2, 3, 4, 5, 6, 7, 8, 9, 10, 11, 12, 13, 14, 15, 16, 17, 18, 19, 20, 21, 22, 23, 24], []⟩, ⟨27, 5, _, [0, 1, 2, 3, 4, 5, 6, 7, 8, 9, 10, 11, 12, 13, 14, 15, 16, 17, 18, 19, 20, 21, 22, 23, 24, 25, 26], []⟩] [⟨26, [0, 1, 2, 3, 4, 5, 6, 7, 8, 9, 10, 11, 12, 13, 14], 103, _⟩] (fuelT := 0)
    · skip
      refine .cons rfl (stepD_op rfl (opP_build rfl u174 z174 rfl (.cons (ev_const rfl) (.cons (ev_const rfl) .nil)) rfl)) ?_
      refine .cons rfl (stepD_op rfl (opP_fieldAddr rfl (ev_tmp rfl) u38 rfl rfl s3 rfl)) ?_
      refine .cons rfl (stepD_op rfl (opP_load_pt rfl u3 rfl (ev_tmp rfl) rfl rfl)) ?_
      refine .cons rfl (stepD_op rfl (opP_bin rfl (ev_tmp rfl) (ev_const rfl) rfl)) ?_
      refine .cons rfl (stepD_op rfl (opP_move rfl (ev_tmp rfl))) ?_
      refine .cons rfl (stepD_opg rfl rfl rfl rfl (opP_fieldAddr rfl (ev_tmp rfl) u38 rfl rfl s36 rfl)) ?_
      refine .cons rfl (stepD_opg rfl rfl rfl rfl (opP_load_pt rfl u36 rfl (ev_when rfl id) rfl rfl)) ?_
      refine .cons rfl (stepD_opg rfl rfl rfl rfl (opP_bin rfl (ev_when rfl id) (ev_const rfl) rfl)) ?_
      refine .cons rfl (stepD_op rfl (opP_and rfl (ev_tmp rfl) (ev_when rfl id))) ?_
      refine .cons rfl (stepD_op rfl (opP_move rfl (ev_tmp rfl))) ?_
      refine .cons rfl (stepD_opg rfl rfl rfl rfl (opP_fieldAddr rfl (ev_tmp rfl) u38 rfl rfl s22 rfl)) ?_
      refine .cons rfl (stepD_opg rfl rfl rfl rfl (opP_load_pt rfl u22 rfl (ev_when rfl id) rfl rfl)) ?_
      refine .cons rfl (stepD_opg rfl rfl rfl rfl (opP_len rfl u22 (ev_when rfl id) (by first | exact lenA_ints | exact lenA_map | rfl))) ?_
      refine .cons rfl (stepD_opg rfl rfl rfl rfl (opP_bin rfl (ev_when rfl id) (ev_const rfl) rfl)) ?_
      refine .cons rfl (stepD_opg rfl rfl rfl rfl (opP_move rfl (ev_when rfl id))) ?_
      refine .cons rfl (stepD_opg rfl rfl rfl rfl (opP_fieldAddr rfl (ev_tmp rfl) u38 rfl rfl s22 rfl)) ?_
      refine .cons rfl (stepD_opg rfl rfl rfl rfl (opP_load_pt rfl u22 rfl (ev_when rfl id) rfl rfl)) ?_
      refine .cons rfl (stepD_opg rfl rfl rfl rfl (opP_index_dat rfl u22 s3 (ev_when rfl id) (ev_const rfl) (fun _ => by decide) (fun gd => ints_getD (by simp at gd; omega)))) ?_
      refine .cons rfl (stepD_opg rfl rfl rfl rfl (opP_load_pr rfl u3 rfl (ev_when rfl id))) ?_
      refine .cons rfl (stepD_opg rfl rfl rfl rfl (opP_fieldAddr rfl (ev_tmp rfl) u38 rfl rfl s22 rfl)) ?_
      refine .cons rfl (stepD_opg rfl rfl rfl rfl (opP_load_pt rfl u22 rfl (ev_when rfl id) rfl rfl)) ?_
      refine .cons rfl (stepD_opg rfl rfl rfl rfl (opP_index_dat rfl u22 s3 (ev_when rfl id) (ev_const rfl) (fun _ => by decide) (fun gd => ints_getD (by simp at gd; omega)))) ?_
      refine .cons rfl (stepD_opg rfl rfl rfl rfl (opP_load_pr rfl u3 rfl (ev_when rfl id))) ?_
      refine .cons rfl (stepD_opg rfl rfl rfl rfl (opP_bin rfl (ev_when rfl id) (ev_when rfl id) rfl)) ?_
      refine .cons rfl (stepD_opg rfl rfl rfl rfl (opP_or rfl (ev_when rfl id) (ev_when rfl id))) ?_
      refine .cons rfl (stepD_op rfl (opP_and rfl (ev_tmp rfl) (ev_when rfl id))) ?_
      refine .cons rfl (stepD_op rfl (opP_assign rfl (ev_tmp rfl))) ?_
      exact .nil
    · skip
      refine .cons rfl (stepC_store rfl rfl rfl s174 (ev_tmp rfl) (ev_tmp rfl) rfl rfl rfl rfl rfl rfl) ?_
      exact .nil
    · rfl
    · exact hvkd _ rfl
    · rfl
    refine ad_done rfl ?_
    refine aw_ret ?_
    exact ret_id ([.st [.v (.int .i64 _), .v (.int .i64 _)], .v (.bool _)]) (.celln' rfl u174 rfl s174 rfl rfl rfl (.tmp rfl .nil)) (by first | (simp [oneOf, shapeI, *]; done) | (cases hw : isW x.w <;> simp [oneOf, shapeI, u32_w, *])) (by first | exact trivial | exact ⟨rfl, trivial⟩ | exact ⟨rfl, rfl, trivial⟩ | exact ⟨rfl, rfl, rfl, trivial⟩ | exact ⟨rfl, rfl, rfl, rfl, trivial⟩) rfl rfl
  refine aw_seq ?_
  refine aw_region ?_
  refine al_op rfl rfl rfl (opP_bin rfl (ev_tmp rfl) (ev_const rfl) rfl) ?_
  refine al_op rfl rfl rfl (opP_assign rfl (ev_tmp rfl)) ?_
  refine al_nil ?_
  refine aw_cond rfl (fun h17 => ?_) (fun h17 => ?_)
  · refine aw_seq ?_
    refine aw_draw mixed ?_
    apply ad_mix [⟨0, 228, _, [], []⟩, ⟨1, 229, _, [0], []⟩, ⟨2, 230, _, [0, 1], []⟩, ⟨3, 231, _, [0, 1, 2], []⟩, ⟨4, 232, _, [], []⟩, ⟨5, 233, _, [4], []⟩, ⟨6, 234, _, [4, 5], []⟩, ⟨7, 235, _, [4, 5, 6], []⟩, ⟨8, 236, _, [4, 5, 6, 7], []⟩, ⟨9, 237, _, [4, 5, 6, 7, 8], []⟩, ⟨10, 238, _, [4, 5, 6, 7, 8, 9], []⟩, ⟨11, 239, _, [4, 5, 6, 7, 8, 9, 10], []⟩, ⟨13, 5, _, [0, 1, 2, 3, 4, 5, 6, 7, 8, 9, 10, 11, 12], []⟩] [⟨12, [0, 1, 2, 3, 4, 5, 6, 7], 103, _⟩] (fuelT := 0)
    · skip
      refine .cons rfl (stepD_op rfl (opP_fieldAddr rfl (ev_tmp rfl) u27 rfl rfl s3 rfl)) ?_
      refine .cons rfl (stepD_op rfl (opP_load_pt rfl u3 rfl (ev_tmp rfl) rfl rfl)) ?_
      refine .cons rfl (stepD_op rfl (opP_min rfl (ev_tmp rfl) (ev_const rfl))) ?_
      refine .cons rfl (stepD_op rfl (opP_build rfl u174 z174 rfl (.cons (ev_tmp rfl) .nil) rfl)) ?_
      refine .cons rfl (stepD_op rfl (opP_fieldAddr rfl (ev_tmp rfl) u38 rfl rfl s3 rfl)) ?_
      refine .cons rfl (stepD_op rfl (opP_load_pt rfl u3 rfl (ev_tmp rfl) rfl rfl)) ?_
      refine .cons rfl (stepD_op rfl (opP_bin rfl (ev_tmp rfl) (ev_const rfl) rfl)) ?_
      refine .cons rfl (stepD_op rfl (opP_move rfl (ev_tmp rfl))) ?_
      refine .cons rfl (stepD_opg rfl rfl rfl rfl (opP_fieldAddr rfl (ev_tmp rfl) u38 rfl rfl s36 rfl)) ?_
      refine .cons rfl (stepD_opg rfl rfl rfl rfl (opP_load_pt rfl u36 rfl (ev_when rfl id) rfl rfl)) ?_
      refine .cons rfl (stepD_opg rfl rfl rfl rfl (opP_bin rfl (ev_when rfl id) (ev_const rfl) rfl)) ?_
      refine .cons rfl (stepD_op rfl (opP_and rfl (ev_tmp rfl) (ev_when rfl id))) ?_
      refine .cons rfl (stepD_op rfl (opP_assign rfl (ev_tmp rfl))) ?_
      exact .nil
    · skip
      refine .cons rfl (stepC_store rfl rfl rfl s174 (ev_tmp rfl) (ev_tmp rfl) rfl rfl rfl rfl rfl rfl) ?_
      exact .nil
    · rfl
    · exact hvkd _ rfl
    · rfl
    refine ad_done rfl ?_
    refine aw_ret ?_
    exact ret_id ([.st [.v (.int .i64 _), .v (.int .i64 _)], .v (.bool _)]) (.celln' rfl u174 rfl s174 rfl rfl rfl (.tmp rfl .nil)) (by first | (simp [oneOf, shapeI, *]; done) | (cases hw : isW x.w <;> simp [oneOf, shapeI, u32_w, *])) (by first | exact trivial | exact ⟨rfl, trivial⟩ | exact ⟨rfl, rfl, trivial⟩ | exact ⟨rfl, rfl, rfl, trivial⟩ | exact ⟨rfl, rfl, rfl, rfl, trivial⟩) rfl rfl
  refine aw_seq ?_
  refine aw_region ?_
  refine al_op rfl rfl rfl (opP_bin rfl (ev_tmp rfl) (ev_const rfl) rfl) ?_
  refine al_op rfl rfl rfl (opP_assign rfl (ev_tmp rfl)) ?_
  refine al_nil ?_
  refine aw_condS rfl (fun h18 => ?_) (fun h18 => ?_)
  · refine aw_skip ?_
    refine aw_seq ?_
    refine aw_region ?_
    refine al_op rfl rfl rfl (opP_build rfl u174 z174 rfl .nil rfl) ?_
    refine al_store_pt rfl rfl rfl s174 (ev_tmp rfl) (ev_tmp rfl) rfl rfl rfl rfl rfl rfl ?_
    refine al_op rfl rfl rfl (opP_assign rfl (ev_const rfl)) ?_
    refine al_nil ?_
    refine aw_ret ?_
    exact ret_id ([.st [.v (.int .i64 _), .v (.int .i64 _)], .v (.bool _)]) (.celln' rfl u174 rfl s174 rfl rfl rfl (.tmp rfl .nil)) (by first | (simp [oneOf, shapeI, *]; done) | (cases hw : isW x.w <;> simp [oneOf, shapeI, u32_w, *])) (by first | exact trivial | exact ⟨rfl, trivial⟩ | exact ⟨rfl, rfl, trivial⟩ | exact ⟨rfl, rfl, rfl, trivial⟩ | exact ⟨rfl, rfl, rfl, rfl, trivial⟩) rfl rfl
  refine aw_seq ?_
  refine aw_draw mixed ?_
  apply ad_mix [⟨0, 242, _, [], []⟩, ⟨1, 243, _, [], []⟩, ⟨2, 244, _, [1], []⟩, ⟨3, 245, _, [1, 2], []⟩, ⟨4, 246, _, [1, 2, 3], []⟩, ⟨5, 247, _, [1, 2, 3, 4], []⟩, ⟨6, 248, _, [1, 2, 3, 4, 5], []⟩, ⟨7, 249, _, [1, 2, 3, 4, 5, 6], []⟩, ⟨8, 250, _, [1, 2, 3, 4, 5, 6, 7], []⟩, ⟨10, 5, _, [0, 1, 2, 3, 4, 5, 6, 7, 8, 9], []⟩] [⟨9, [0, 1, 2, 3, 4], 103, _⟩] (fuelT := 0)
  · skip
    refine .cons rfl (stepD_op rfl (opP_build rfl u174 z174 rfl .nil rfl)) ?_
    refine .cons rfl (stepD_op rfl (opP_fieldAddr rfl (ev_tmp rfl) u38 rfl rfl s3 rfl)) ?_
    refine .cons rfl (stepD_op rfl (opP_load_pt rfl u3 rfl (ev_tmp rfl) rfl rfl)) ?_
    refine .cons rfl (stepD_op rfl (opP_bin rfl (ev_tmp rfl) (ev_const rfl) rfl)) ?_
    refine .cons rfl (stepD_op rfl (opP_move rfl (ev_tmp rfl))) ?_
    refine .cons rfl (stepD_opg rfl rfl rfl rfl (opP_fieldAddr rfl (ev_tmp rfl) u38 rfl rfl s36 rfl)) ?_
    refine .cons rfl (stepD_opg rfl rfl rfl rfl (opP_load_pt rfl u36 rfl (ev_when rfl id) rfl rfl)) ?_
    refine .cons rfl (stepD_opg rfl rfl rfl rfl (opP_bin rfl (ev_when rfl id) (ev_const rfl) rfl)) ?_
    refine .cons rfl (stepD_op rfl (opP_and rfl (ev_tmp rfl) (ev_when rfl id))) ?_
    refine .cons rfl (stepD_op rfl (opP_assign rfl (ev_tmp rfl))) ?_
    exact .nil
  · skip
    refine .cons rfl (stepC_store rfl rfl rfl s174 (ev_tmp rfl) (ev_tmp rfl) rfl rfl rfl rfl rfl rfl) ?_
    exact .nil
  · rfl
  · exact hvkd _ rfl
  · rfl
  refine ad_done rfl ?_
  refine aw_ret ?_
  exact ret_id ([.st [.v (.int .i64 _), .v (.int .i64 _)], .v (.bool _)]) (.celln' rfl u174 rfl s174 rfl rfl rfl (.tmp rfl .nil)) (by first | (simp [oneOf, shapeI, *]; done) | (cases hw : isW x.w <;> simp [oneOf, shapeI, u32_w, *])) (by first | exact trivial | exact ⟨rfl, trivial⟩ | exact ⟨rfl, rfl, trivial⟩ | exact ⟨rfl, rfl, rfl, trivial⟩ | exact ⟨rfl, rfl, rfl, rfl, trivial⟩) rfl rfl
end Go.AL
namespace Go.AL
open Go.Proofs
theorem e98 : Enters Tryz.prog 98 := enters_of Tryz.func98 (by kernel_rfl) (by kernel_rfl)
set_option maxRecDepth 100000 in
set_option maxHeartbeats 4000000 in
theorem c98 (f : Fn) (x : Inst) (hf : f.Fits) (hx : x.Fits) : Ok Tryz.prog 98 [.dat none (fnD f), .dat none (instD x)] [] (.v (.bool (shapedI f x))) [] := by
  refine ok_of e98 Tryz.func98 rfl (by kernel_rfl) ?_
  intro cx hP hro hN hvk
  obtain ⟨P, ro, w0, Bin, N, R0, tk0, bl0, vk⟩ := cx
  subst hP hro hN
  have hvkd := vkd_of hvk
  refine aw_seq ?_
  refine aw_region ?_
  refine al_opc (k := 101) rfl rfl rfl ((hvk _).trans rfl) (opC_box rfl (ev_tmp rfl) rfl) ?_
  refine al_opc (k := 102) rfl rfl rfl ((hvk _).trans rfl) (opC_box rfl (ev_tmp rfl) rfl) ?_
  refine al_op rfl rfl rfl (opP_assign rfl (ev_const rfl)) ?_
  refine al_nil ?_
  refine aw_seq ?_
  refine aw_region ?_
  refine al_op rfl rfl rfl (opP_load_ptn rfl u27 rfl s27 (ev_tmp rfl) rfl rfl) ?_
  refine al_op rfl rfl rfl (opP_load_ptn rfl u38 rfl s38 (ev_tmp rfl) rfl rfl) ?_
  refine al_call (id) rfl rfl rfl (callOf_func rfl (.cons (ev_tmp rfl) (.cons (ev_tmp rfl) .nil))) (c161 f x hf hx) (by repeat' (first | refine Vw.stDOf ?_ | refine Vw.ptOf rfl rfl rfl ?_ | refine Vw.prvOf ?_ | refine Vw.cloOf ?_ | constructor)) (fun _ h => absurd h (by simp)) rfl rfl rfl (fun _ h => absurd h (by simp)) ?_
  refine al_op rfl rfl rfl (opP_move rfl (ev_tmp rfl)) ?_
  refine al_op rfl rfl rfl (opP_extract rfl (ev_tmp rfl) rfl) ?_
  refine al_op rfl rfl rfl (opP_extract rfl (ev_tmp rfl) rfl) ?_
  refine al_opc (k := 103) rfl rfl rfl ((hvk _).trans rfl) (opC_alloc rfl z174) ?_
  refine al_store_pt rfl rfl rfl s174 (ev_tmp rfl) (ev_tmp rfl) rfl rfl rfl rfl rfl rfl ?_
  refine al_op rfl rfl rfl (opP_assign rfl (ev_tmp rfl)) ?_
  refine al_nil ?_
  refine aw_seq ?_
  refine aw_seq ?_
  refine aw_draw mixed ?_
  apply ad_phase' [⟨0, 13, _, [], []⟩, ⟨1, 14, _, [0], []⟩, ⟨2, 15, _, [0, 1], []⟩, ⟨3, 16, _, [0, 1, 2], []⟩, ⟨4, 17, _, [0, 1, 2, 3], []⟩, ⟨5, 18, _, [0, 1, 2, 3, 4], []⟩, ⟨6, 19, _, [0, 1, 2], []⟩, ⟨7, 20, _, [0, 1, 2, 6], []⟩, ⟨8, 21, _, [0, 1, 2, 3, 4, 5, 6, 7], []⟩, ⟨9, 22, _, [0, 1, 2, 3, 4, 5, 6, 7, 8], []⟩, ⟨10, 23, _, [0, 1, 2, 3, 4, 5, 6, 7, 8, 9], []⟩, ⟨11, 24, _, [0, 1, 2, 3, 4, 5, 6, 7, 8, 9, 10], []⟩, ⟨12, 25, _, [0, 1, 2, 3, 4, 5, 6, 7, 8, 9, 10, 11], []⟩, ⟨13, 26, _, [0, 1, 2, 3, 4, 5, 6, 7, 8, 9, 10, 11, 12], []⟩, ⟨14, 27, _, [0, 1, 2, 3, 4, 5, 6, 7, 8, 9, 10], []⟩, ⟨15, 28, _, [0, 1, 2, 3, 4, 5, 6, 7, 8, 9, 10, 14], []⟩, ⟨16, 29, _, [0, 1, 2, 3, 4, 5, 6, 7, 8, 9, 10, 11, 12, 13, 14, 15], []⟩, ⟨17, 30, _, [0, 1, 2, 3, 4, 5, 6, 7, 8, 9, 10, 11, 12, 13, 14, 15, 16], []⟩, ⟨18, 31, _, [0, 1, 2, 3, 4, 5, 6, 7, 8, 9, 10, 11, 12, 13, 14, 15, 16, 17], []⟩, ⟨19, 32, _, [0, 1, 2, 3, 4, 5, 6, 7, 8, 9, 10, 11, 12, 13, 14, 15, 16, 17, 18], []⟩, ⟨20, 33, _, [0, 1, 2, 3, 4, 5, 6, 7, 8, 9, 10, 11, 12, 13, 14, 15, 16, 17, 18, 19], []⟩, ⟨21, 34, _, [0, 1, 2, 3, 4, 5, 6, 7, 8, 9, 10, 11, 12, 13, 14, 15, 16, 17, 18], []⟩, ⟨22, 35, _, [0, 1, 2, 3, 4, 5, 6, 7, 8, 9, 10, 11, 12, 13, 14, 15, 16, 17, 18, 21], []⟩, ⟨23, 36, _, [0, 1, 2, 3, 4, 5, 6, 7, 8, 9, 10, 11, 12, 13, 14, 15, 16, 17, 18, 21, 22], []⟩, ⟨24, 37, _, [0, 1, 2, 3, 4, 5, 6, 7, 8, 9, 10, 11, 12, 13, 14, 15, 16, 17, 18, 19, 20, 21, 22, 23], []⟩, ⟨25, 38, _, [0, 1, 2, 3, 4, 5, 6, 7, 8, 9, 10, 11, 12, 13, 14, 15, 16, 17, 18, 19, 20, 21, 22, 23, 24], []⟩, ⟨26, 39, _, [0, 1, 2, 3, 4, 5, 6, 7, 8, 9, 10, 11, 12, 13, 14, 15, 16, 17, 18, 19, 20, 21, 22, 23, 24, 25], []⟩] [] (fuelT := 0)
  · skip
    refine .cons rfl (stepD_op rfl (opP_move rfl (ev_tmp rfl))) ?_
    refine .cons rfl (stepD_op rfl (opP_not rfl (ev_tmp rfl))) ?_
    refine .cons rfl (stepD_op rfl (opP_move rfl (ev_tmp rfl))) ?_
    refine .cons rfl (stepD_opg rfl rfl rfl rfl (opP_fieldAddr rfl (ev_tmp rfl) u38 rfl rfl s22 rfl)) ?_
    refine .cons rfl (stepD_opg rfl rfl rfl rfl (opP_load_pt rfl u22 rfl (ev_when rfl id) rfl rfl)) ?_
    refine .cons rfl (stepD_opg rfl rfl rfl rfl (opP_len rfl u22 (ev_when rfl id) (by first | exact lenA_ints | exact lenA_map | rfl))) ?_
    refine .cons rfl (stepD_opg rfl rfl rfl rfl (opP_fieldAddr rfl (ev_tmp rfl) u174 rfl rfl s3 rfl)) ?_
    refine .cons rfl (stepD_opg rfl rfl rfl rfl (opP_load_pt rfl u3 rfl (ev_when rfl id) rfl rfl)) ?_
    refine .cons rfl (stepD_opg rfl rfl rfl rfl (opP_bin rfl (ev_when rfl id) (ev_when rfl id) rfl)) ?_
    refine .cons rfl (stepD_op rfl (opP_or rfl (ev_tmp rfl) (ev_when rfl id))) ?_
    refine .cons rfl (stepD_op rfl (opP_move rfl (ev_tmp rfl))) ?_
    refine .cons rfl (stepD_opg rfl rfl rfl rfl (opP_fieldAddr rfl (ev_tmp rfl) u38 rfl rfl s22 rfl)) ?_
    refine .cons rfl (stepD_opg rfl rfl rfl rfl (opP_load_pt rfl u22 rfl (ev_when rfl id) rfl rfl)) ?_
    refine .cons rfl (stepD_opg rfl rfl rfl rfl (opP_len rfl u22 (ev_when rfl id) (by first | exact lenA_ints | exact lenA_map | rfl))) ?_
    refine .cons rfl (stepD_opg rfl rfl rfl rfl (opP_fieldAddr rfl (ev_tmp rfl) u174 rfl rfl s3 rfl)) ?_
    refine .cons rfl (stepD_opg rfl rfl rfl rfl (opP_load_pt rfl u3 rfl (ev_when rfl id) rfl rfl)) ?_
    refine .cons rfl (stepD_opg rfl rfl rfl rfl (opP_bin rfl (ev_when rfl id) (ev_when rfl id) rfl)) ?_
    refine .cons rfl (stepD_op rfl (opP_or rfl (ev_tmp rfl) (ev_when rfl id))) ?_
    refine .cons rfl (stepD_op rfl (opP_move rfl (ev_tmp rfl))) ?_
    refine .cons rfl (stepD_opg rfl rfl rfl rfl (opP_fieldAddr rfl (ev_tmp rfl) u38 rfl rfl s3 rfl)) ?_
    refine .cons rfl (stepD_opg rfl rfl rfl rfl (opP_load_pt rfl u3 rfl (ev_when rfl id) rfl rfl)) ?_
    refine .cons rfl (stepD_opg rfl rfl rfl rfl (opP_fieldAddr rfl (ev_tmp rfl) u38 rfl rfl s3 rfl)) ?_
    refine .cons rfl (stepD_opg rfl rfl rfl rfl (opP_load_pt rfl u3 rfl (ev_when rfl id) rfl rfl)) ?_
    refine .cons rfl (stepD_callg rfl rfl rfl rfl (callOf_func rfl (.cons (ev_when rfl id) .nil)) (fun gd => c162 x.op) (fun gd => (by repeat' (first | refine Vw.stDOf ?_ | refine Vw.ptOf rfl rfl rfl ?_ | refine Vw.prvOf ?_ | refine Vw.cloOf ?_ | constructor))) rfl (fun _ => rfl)) ?_
    refine .cons rfl (stepD_opg rfl rfl rfl rfl (opP_andNot rfl (ev_when rfl id) (ev_when rfl id))) ?_
    refine .cons rfl (stepD_opg rfl rfl rfl rfl (opP_bin rfl (ev_when rfl id) (ev_const rfl) rfl)) ?_
    refine .cons rfl (stepD_op rfl (opP_or rfl (ev_tmp rfl) (ev_when rfl id))) ?_
    exact .nil
  · exact .no rfl (.no rfl (.no rfl (.no rfl (.no rfl (.no rfl (.no rfl (.no rfl (.no rfl (.no rfl (.no rfl (.no rfl (.no rfl (.no rfl (.no rfl (.no rfl (.no rfl (.no rfl (.no rfl (.no rfl (.no rfl (.no rfl (.no rfl (.no rfl (.no rfl (.no rfl (.no rfl (.nil)))))))))))))))))))))))))))
  · rfl
  · rfl
  · rfl
  · rfl
  · exact fun c s h => h
  · exact hvkd _ rfl
  · rfl
  refine ad_done rfl ?_
  refine aw_cond rfl (fun h1 => ?_) (fun h1 => ?_)
  · refine aw_seq ?_
    refine aw_region ?_
    refine al_op rfl rfl rfl (opP_assign rfl (ev_const rfl)) ?_
    refine al_nil ?_
    refine aw_ret ?_
    have e : shapedI f x = false := by unfold shapedI; rw [show (((!(shapeI f x).2.2 || (x.args.length : Int) != (shapeI f x).1) || (x.to.length : Int) != (shapeI f x).2.1) || clearN x.fl (flagsR x.op) != 0) = true from h1]; rfl
    rw [e]; exact ret_id _ (.tmp rfl .nil) rfl trivial rfl rfl
  refine aw_skip ?_
  refine aw_seq ?_
  refine aw_region ?_
  refine al_op rfl rfl rfl (opP_fieldAddr rfl (ev_tmp rfl) u38 rfl rfl s22 rfl) ?_
  refine al_op rfl rfl rfl (opP_load_pt rfl u22 rfl (ev_tmp rfl) rfl rfl) ?_
  refine al_op rfl rfl rfl (opP_makeFunc rfl (.cons (ev_tmp rfl) .nil)) ?_
  refine al_call id rfl rfl rfl (callOf_func rfl (.cons (ev_tmp rfl) (.cons (ev_tmp rfl) .nil))) (c156 163 [.prv (fnA f)] x.to (toBad f) hx.to (fun _ => .cons (Vw.prvOf (.cons (.datn _) (.cons (.v _) (.cons (.datn _) (.cons (.datn _) .nil))))) .nil) (fun y _ => c163 f y)) (.cons (.datn _) (.cons (Vw.cloOf (.cons (Vw.ptOf rfl rfl rfl (.cons (.datn _) (.cons (.v _) (.cons (.datn _) (.cons (.datn _) .nil))))) .nil)) .nil)) (fun _ h => absurd h (by simp)) rfl rfl rfl (fun _ h => absurd h (by simp)) ?_
  refine al_op rfl rfl rfl (opP_not rfl (ev_tmp rfl)) ?_
  refine al_op rfl rfl rfl (opP_assign rfl (ev_tmp rfl)) ?_
  refine al_nil ?_
  refine aw_ret ?_
  have e : shapedI f x = !(x.to.any (toBad f)) := by unfold shapedI; rw [show (((!(shapeI f x).2.2 || (x.args.length : Int) != (shapeI f x).1) || (x.to.length : Int) != (shapeI f x).2.1) || clearN x.fl (flagsR x.op) != 0) = false from h1]; rfl
  rw [e]; exact ret_id _ (.tmp rfl .nil) rfl trivial rfl rfl
theorem e138 : Enters Tryz.prog 138 := enters_of Tryz.func138 (by kernel_rfl) (by kernel_rfl)
set_option maxRecDepth 100000 in
set_option maxHeartbeats 4000000 in
theorem c138 (f : Fn) (hf : f.Fits) (hne : ∀ l ∈ f.blocks, l ≠ []) : Ok Tryz.prog 138 [.dat none (fnD f)] [] (.row 138001 1 0 f.blocks.length) [(138001, .row 1 ((graphR f).map rowD))] := by
  refine ok_of e138 Tryz.func138 rfl (by kernel_rfl) ?_
  intro cx hP hro hN hvk
  obtain ⟨P, ro, w0, Bin, N, R0, tk0, bl0, vk⟩ := cx
  subst hP hro hN
  have hvkd := vkd_of hvk
  refine aw_seq ?_
  refine aw_region ?_
  refine al_opc (k := 101) rfl rfl rfl ((hvk _).trans rfl) (opC_box rfl (ev_tmp rfl) rfl) ?_
  refine al_op rfl rfl rfl (opP_assign rfl (ev_const rfl)) ?_
  refine al_nil ?_
  refine aw_seq ?_
  refine aw_region ?_
  refine al_op rfl rfl rfl (opP_assign rfl (ev_const rfl)) ?_
  refine al_imp (imp_nilrow (k := 138001) (es := 1) (t := 3) ((hvk _).trans rfl) rfl) ?_
  refine al_nil ?_
  refine aw_seq ?_
  refine aw_seq ?_
  refine aw_region ?_
  refine al_op rfl rfl rfl (opP_fieldAddr rfl (ev_tmp rfl) u27 rfl rfl s25 rfl) ?_
  refine al_op rfl rfl rfl (opP_load_pt rfl u25 rfl (ev_tmp rfl) rfl rfl) ?_
  refine al_op rfl rfl rfl (opP_len rfl u25 (ev_tmp rfl) (by first | exact lenA_ints | exact lenA_map | rfl)) ?_
  refine al_op rfl rfl rfl (opP_move rfl (ev_const rfl)) ?_
  refine al_nil ?_
  refine aw_block ?_
  refine aw_loop' (α := Nat) (fun i => [(1, .pt 101 0), (3, .row 138001 1 0 i), (7, .dat none (.sl 1 (f.blocks.map instsD))), (8, .v (.int .i64 f.blocks.length)), (9, .v (.int .i64 i))]) (fun i => [(101, .var [.dat none (.sl 1 (ints f.params)), .v (.int .i64 f.ret), .dat none (.sl 1 (ints f.slots)), .dat none (.sl 1 (f.blocks.map instsD))]), (138001, .row 1 (((graphR f).take i).map rowD))]) (fun i => i ≤ f.blocks.length) (fun i => f.blocks.length - i) 0 (Nat.zero_le _) id (Fit.of ⟨rfl, rfl, trivial⟩ ⟨rfl, rfl, rfl, rfl, rfl, trivial⟩ rfl rfl) ?_
  rintro i hi
  refine aw_seq ?_
  refine aw_region ?_
  refine al_op rfl rfl rfl (opP_bin rfl (ev_tmp rfl) (ev_tmp rfl) rfl) ?_
  refine al_nil ?_
  refine aw_seq ?_
  refine aw_condS rfl (fun h1 => ?_) (fun h1 => ?_)
  · refine aw_exit ?_
    refine aw_seq ?_
    refine aw_region ?_
    refine al_op rfl rfl rfl (opP_move rfl (ev_tmp rfl)) ?_
    refine al_op rfl rfl rfl (opP_assign rfl (ev_tmp rfl)) ?_
    refine al_nil ?_
    refine aw_ret ?_
    have e : i = f.blocks.length := by simp at h1; omega
    subst e
    have hg : ((graphR f).take f.blocks.length) = graphR f := by rw [← graph_len, List.take_length]
    exact ret_id _ (.tmp rfl .nil) rfl ⟨congrArg (fun l => some (O.row 1 (List.map rowD l))) hg, trivial⟩ rfl rfl
  have hif : i < f.blocks.length := by simpa using h1
  have hlen : (((graphR f).take i).map rowD).length = i := by simp [graphR]; omega
  have hb0 : f.blocks[i] ≠ [] := hne _ (List.getElem_mem hif)
  have hb1 : 0 < f.blocks[i].length := by cases hx : f.blocks[i] with | nil => exact absurd hx hb0 | cons a l => simp
  have hbl := hf.insts _ (List.getElem_mem hif)
  have hwl : IntKind.i64.wrap (((f.blocks[i].length : Nat) : Int) - 1) = ((f.blocks[i].length - 1 : Nat) : Int) := by rw [wrapI ⟨by omega, by omega⟩]; omega
  have hto := (hf.inst _ (List.getElem_mem hif) _ (List.getElem_mem (show f.blocks[i].length - 1 < f.blocks[i].length by omega))).to
  have hlast : (graphR f)[i]'(by rw [graph_len]; exact hif) = f.blocks[i][f.blocks[i].length - 1].to := by simp [graphR, lastTo, List.getLast?_eq_getElem?, show f.blocks[i].length - 1 < f.blocks[i].length by omega]
  have hbf := hf.blocks
  have hidx : (f.blocks[i].map instD)[(IntKind.i64.wrap (((f.blocks[i].length : Nat) : Int) - 1)).toNat]? = some (instD f.blocks[i][f.blocks[i].length - 1]) := by
    rw [hwl]; simp only [Int.toNat_natCast]; exact insts_get (by omega)
  refine aw_skip ?_
  refine aw_seq ?_
  refine aw_block ?_
  refine aw_seq ?_
  refine aw_region ?_
  refine al_op rfl rfl rfl (opP_index_dat rfl u25 s35 (ev_tmp rfl) (ev_tmp rfl) (fun _ => Int.natCast_nonneg _) (fun _ => blocks_get hif)) ?_
  refine al_op rfl rfl rfl (opP_load_pr rfl u35 rfl (ev_tmp rfl)) ?_
  refine al_op rfl rfl rfl (opP_assign rfl (ev_tmp rfl)) ?_
  refine al_nil ?_
  refine aw_region ?_
  refine al_op rfl rfl rfl (opP_move rfl (ev_tmp rfl)) ?_
  refine al_op rfl rfl rfl (opP_move rfl (ev_tmp rfl)) ?_
  refine al_op rfl rfl rfl (opP_move rfl (ev_tmp rfl)) ?_
  refine al_op rfl rfl rfl (opP_len rfl u35 (ev_tmp rfl) (by first | exact lenA_ints | exact lenA_map | rfl)) ?_
  refine al_op rfl rfl rfl (opP_bin rfl (ev_tmp rfl) (ev_const rfl) rfl) ?_
  refine al_op rfl rfl rfl (opP_index_dat rfl u35 s38 (ev_tmp rfl) (ev_tmp rfl) (fun _ => by rw [hwl]; exact Int.natCast_nonneg _) (fun _ => hidx)) ?_
  refine al_op rfl rfl rfl (opP_fieldAddr rfl (ev_tmp rfl) u38 rfl rfl s22 rfl) ?_
  refine al_op rfl rfl rfl (opP_load_pr rfl u22 rfl (ev_tmp rfl)) ?_
  refine al_call (id) rfl rfl rfl (callOf_func rfl (.cons (ev_tmp rfl) .nil)) (c59 f.blocks[i][f.blocks[i].length - 1].to hto) (by repeat' (first | refine Vw.stDOf ?_ | refine Vw.ptOf rfl rfl rfl ?_ | refine Vw.prvOf ?_ | refine Vw.cloOf ?_ | constructor)) (fun _ h => absurd h (by simp)) rfl rfl rfl (fun p hp => .inr ((hvk _).trans (by simp at hp; subst hp; rfl))) ?_
  refine al_opc (k := 202) rfl rfl rfl ((hvk _).trans rfl) (opC_buildSlice (ds := [.sl 1 _]) rfl u47 s22 z22 rfl rfl (.cons (ev_tmp rfl) .nil) rfl rfl (.cons (.row 59001 1 _ _ rfl (by rw [ints_len])) .nil) rfl rfl rfl) ?_
  refine al_opc rfl rfl rfl ((hvk _).trans rfl) (opC_append rfl u47 s22 z22 rfl b22 (ev_tmp rfl) (ev_tmp rfl) (.row 138001 1 _ _ rfl hlen.symm) (.row 202 1 _ _ rfl rfl) rfl rfl (by rw [hlen]; simp; omega) rfl) ?_
  refine al_op rfl rfl rfl (opP_assign rfl (ev_tmp rfl)) ?_
  refine al_nil ?_
  refine aw_region ?_
  refine al_op rfl rfl rfl (opP_bin rfl (ev_tmp rfl) (ev_const rfl) rfl) ?_
  refine al_op rfl rfl rfl (opP_move rfl (ev_tmp rfl)) ?_
  refine al_nil ?_
  refine ⟨i + 1, id, hif, by omega, Fit.of ⟨rfl, ?_, trivial⟩ ⟨rfl, ?_, rfl, rfl, by rw [← wrapS (by have := hf.blocks; omega)]; rfl, trivial⟩ rfl rfl⟩
  · show some (O.row 1 (((graphR f).take i).map rowD ++ [.sl 1 (ints f.blocks[i][f.blocks[i].length - 1].to)])) = _
    rw [List.take_succ_eq_append_getElem (by rw [graph_len]; exact hif), List.map_append, hlast]; rfl
  · show A.row 138001 1 0 ((((graphR f).take i).map rowD).length + 1) = _
    rw [hlen]
end Go.AL
namespace Go.AL
def visitR : Nat → List (List Int) → Int → Int → List Bool → List Bool
  | 0, _, _, _, s => s
  | k + 1, g, w, v, s => if v == w || s.getD v.toNat false then s else (g.getD v.toNat []).foldl (fun s t => visitR k g w t s) (s.set v.toNat true)
def unseen (s : List Bool) : Nat := s.countP (fun b => !b)
inductive Way (g : List (List Int)) (w : Int) : Int → Prop
  | zero (h : (0 : Int) ≠ w) : Way g w 0
  | step {a t : Int} (h : Way g w a) (ht : t ∈ g.getD a.toNat []) (hw : t ≠ w) : Way g w t
theorem foldl_len {α : Type} {f : List Bool → α → List Bool} (hf : ∀ s x, (f s x).length = s.length) : ∀ (l : List α) (s : List Bool), (l.foldl f s).length = s.length
  | [], _ => rfl
  | x :: l, s => by rw [List.foldl_cons, foldl_len hf l, hf]
theorem visitR_len (g : List (List Int)) (w : Int) : ∀ (k : Nat) (v : Int) (s : List Bool), (visitR k g w v s).length = s.length
  | 0, _, _ => rfl
  | k + 1, v, s => by
    unfold visitR
    split
    · rfl
    · rw [foldl_len fun s t => visitR_len g w k t s]; simp
theorem set_true_keep {s : List Bool} {i b : Nat} (h : s.getD b false = true) : (s.set i true).getD b false = true := by
  rw [List.getD_eq_getElem?_getD] at h ⊢
  rw [List.getElem?_set]
  split
  · split
    · rfl
    · rename_i h1 h2; subst h1; rw [List.getElem?_eq_none (by omega)] at h; simp at h
  · exact h
theorem set_true_at {s : List Bool} {i : Nat} (h : i < s.length) : (s.set i true).getD i false = true := by simp [h]
theorem set_true_of {s : List Bool} {i b : Nat} (h : (s.set i true).getD b false = true) : b = i ∨ s.getD b false = true := by
  by_cases e : b = i
  · exact .inl e
  · right
    rw [List.getD_eq_getElem?_getD] at h ⊢
    rwa [List.getElem?_set_ne (Ne.symm e)] at h
theorem unseen_set : ∀ {s : List Bool} {i : Nat}, i < s.length → s.getD i false = false → unseen (s.set i true) + 1 = unseen s
  | [], i, h, _ => by simp at h
  | b :: s, 0, _, hb => by simp at hb; subst hb; simp [unseen]
  | b :: s, i + 1, h, hb => by
    have := unseen_set (s := s) (i := i) (by simpa using h) (by simpa using hb)
    unfold unseen at this ⊢
    rw [List.set_cons_succ, List.countP_cons, List.countP_cons]; omega
theorem unseen_le : ∀ {s s' : List Bool}, s.length = s'.length → (∀ b : Nat, s.getD b false = true → s'.getD b false = true) → unseen s' ≤ unseen s
  | [], [], _, _ => Nat.le_refl _
  | a :: s, a' :: s', hl, h => by
    have h1 := unseen_le (s := s) (s' := s') (by simpa using hl) fun b hb => by simpa using h (b + 1) (by simpa using hb)
    have h0 := h 0
    unfold unseen at h1 ⊢
    rw [List.countP_cons, List.countP_cons]
    cases a <;> cases a' <;> simp at h0 ⊢ <;> omega
  | [], _ :: _, hl, _ => by simp at hl
  | _ :: _, [], hl, _ => by simp at hl
structure GIn (g : List (List Int)) (n : Nat) : Prop where
  ok : ∀ l ∈ g, ∀ t ∈ l, 0 ≤ t ∧ t < n
theorem GIn.at {g : List (List Int)} {n : Nat} (h : GIn g n) {a : Nat} {t : Int} (ht : t ∈ g.getD a []) : 0 ≤ t ∧ t < n := by
  rw [List.getD_eq_getElem?_getD] at ht
  cases hg : g[a]? with
  | none => rw [hg] at ht; simp at ht
  | some l => rw [hg] at ht; exact h.ok l (List.mem_of_getElem? hg) t ht
structure Seen (g : List (List Int)) (w : Int) (s s' : List Bool) : Prop where
  keep : ∀ b : Nat, s.getD b false = true → s'.getD b false = true
  closed : ∀ b : Nat, s'.getD b false = true → s.getD b false = false → ∀ t ∈ g.getD b [], t ≠ w → s'.getD t.toNat false = true
  way : ∀ (F : Int → Prop), (∀ a t, F a → t ∈ g.getD a.toNat [] → t ≠ w → F t) → ∀ b : Nat, s'.getD b false = true → s.getD b false = false → True
theorem visit_spec {g : List (List Int)} {w : Int} {n : Nat} (hg : GIn g n) (F : Int → Prop) (hF : ∀ a t, F a → t ∈ g.getD a.toNat [] → t ≠ w → F t) : ∀ (k : Nat) (v : Int) (s : List Bool), s.length = n → 0 ≤ v → v < n → unseen s < k → (v ≠ w → F v) →
    (∀ b : Nat, s.getD b false = true → (visitR k g w v s).getD b false = true) ∧
    (v ≠ w → (visitR k g w v s).getD v.toNat false = true) ∧
    (∀ b : Nat, (visitR k g w v s).getD b false = true → s.getD b false = false → F b ∧ ∀ t ∈ g.getD b [], t ≠ w → (visitR k g w v s).getD t.toNat false = true)
  | 0, v, s, _, _, _, h, _ => by omega
  | k + 1, v, s, hs, h0, h1, hu, hFv => by
    unfold visitR
    by_cases hc : (v == w || s.getD v.toNat false) = true
    · rw [if_pos hc]
      refine ⟨fun _ h => h, fun hv => ?_, fun b h1 h2 => by rw [h1] at h2; cases h2⟩
      simp only [Bool.or_eq_true, beq_iff_eq] at hc
      exact hc.resolve_left hv
    · rw [if_neg hc]
      simp only [Bool.or_eq_true, beq_iff_eq, not_or, Bool.not_eq_true] at hc
      obtain ⟨hvw, hsv⟩ := hc
      have hvn : v.toNat < s.length := by omega
      have hu1 := unseen_set hvn hsv
      -- the successors, one after another
      have go : ∀ (l : List Int) (s1 : List Bool), (∀ t ∈ l, t ∈ g.getD v.toNat []) → s1.length = n → (∀ b : Nat, (s.set v.toNat true).getD b false = true → s1.getD b false = true) →
          (∀ b : Nat, s1.getD b false = true → (s.set v.toNat true).getD b false = false → F b ∧ ∀ t ∈ g.getD b [], t ≠ w → s1.getD t.toNat false = true) →
          (∀ b : Nat, s1.getD b false = true → (l.foldl (fun s t => visitR k g w t s) s1).getD b false = true) ∧
          (∀ t ∈ l, t ≠ w → (l.foldl (fun s t => visitR k g w t s) s1).getD t.toNat false = true) ∧
          (∀ b : Nat, (l.foldl (fun s t => visitR k g w t s) s1).getD b false = true → (s.set v.toNat true).getD b false = false → F b ∧ ∀ t ∈ g.getD b [], t ≠ w → (l.foldl (fun s t => visitR k g w t s) s1).getD t.toNat false = true) := by
        intro l
        induction l with
        | nil => exact fun s1 _ _ _ h => ⟨fun _ h => h, fun t ht => by simp at ht, h⟩
        | cons t l ih =>
          intro s1 hl hs1 hk1 hc1
          have htv := hl t (by simp)
          have hb := hg.at htv
          have hus : unseen s1 < k := by
            have := unseen_le (s := s.set v.toNat true) (s' := s1) (by simp [hs, hs1]) hk1
            omega
          obtain ⟨a1, a2, a3⟩ := visit_spec hg F hF k t s1 hs1 hb.1 hb.2 hus (fun htw => hF v t (hFv hvw) htv htw)
          obtain ⟨b1, b2, b3⟩ := ih (visitR k g w t s1) (fun x hx => hl x (by simp [hx])) (by rw [visitR_len, hs1]) (fun b h => a1 b (hk1 b h)) (fun b h2 h3 => by
            cases hb1 : s1.getD b false with
            | true =>
              obtain ⟨c1, c2⟩ := hc1 b hb1 h3
              exact ⟨c1, fun t ht htw => a1 _ (c2 t ht htw)⟩
            | false => exact a3 b h2 hb1)
          rw [List.foldl_cons]
          refine ⟨fun b h => b1 b (a1 b h), fun x hx hxw => ?_, b3⟩
          rcases List.mem_cons.1 hx with rfl | hx
          · exact b1 _ (a2 hxw)
          · exact b2 x hx hxw
      obtain ⟨c1, c2, c3⟩ := go (g.getD v.toNat []) (s.set v.toNat true) (fun _ h => h) (by simp [hs]) (fun _ h => h) (fun b h1 h2 => by rw [h1] at h2; cases h2)
      refine ⟨fun b h => c1 b (set_true_keep h), fun _ => c1 _ (set_true_at hvn), fun b h1 h2 => ?_⟩
      cases hb : (s.set v.toNat true).getD b false with
      | false => exact c3 b h1 hb
      | true =>
        rcases set_true_of hb with e | e
        · subst e
          exact ⟨by have := hFv hvw; rwa [show ((v.toNat : Nat) : Int) = v from by omega], fun t ht htw => c2 t ht htw⟩
        · rw [e] at h2; cases h2
theorem visit_way {g : List (List Int)} {w : Int} {n : Nat} (hg : GIn g n) (hn : 0 < n) (b : Nat) : (visitR (n + 1) g w 0 (List.replicate n false)).getD b false = true ↔ Way g w b := by
  have hr : ∀ i, (List.replicate n false).getD i false = false := fun i => by
    rw [List.getD_eq_getElem?_getD, List.getElem?_replicate]; split <;> rfl
  obtain ⟨_, h2, h3⟩ := visit_spec hg (Way g w) (fun a t h ht hw => .step h ht hw) (n + 1) 0 (List.replicate n false) (by simp) (by omega) (by omega) (by
    unfold unseen
    have := List.countP_le_length (p := fun b : Bool => !b) (l := List.replicate n false)
    rw [List.length_replicate] at this; omega) (fun h => .zero h)
  refine ⟨fun h => (h3 b h (hr b)).1, fun h => ?_⟩
  have key : ∀ v : Int, Way g w v → 0 ≤ v ∧ (visitR (n + 1) g w 0 (List.replicate n false)).getD v.toNat false = true := by
    intro v hv
    induction hv with
    | zero h => exact ⟨by omega, h2 h⟩
    | step h ht hw ih => exact ⟨(hg.at ht).1, (h3 _ ih.2 (hr _)).2 _ ht hw⟩
  have := (key b h).2
  simpa using this
theorem stepI_of {w : Int} {o : List Bool} {t : Int} {b : Nat} (h : (stepI w o t).getD b false = true) : o.getD b false = true ∨ (t ≠ w ∧ b = t.toNat) := by
  unfold stepI at h
  split at h
  · rename_i hw
    rcases set_true_of h with e | e
    · exact .inr ⟨by simpa using hw, e⟩
    · exact .inl e
  · exact .inl h
theorem stepI_at {w : Int} {o : List Bool} {t : Int} (hw : t ≠ w) (h : t.toNat < o.length) : (stepI w o t).getD t.toNat false = true := by
  unfold stepI
  rw [if_pos (by simpa using hw)]; exact set_true_at h
theorem foldI_of {w : Int} (l : List Int) : ∀ {o : List Bool} {b : Nat}, (l.foldl (stepI w) o).getD b false = true → o.getD b false = true ∨ ∃ t ∈ l, t ≠ w ∧ b = t.toNat := by
  induction l with
  | nil => exact fun h => .inl h
  | cons t l ih =>
    intro o b h
    rcases ih h with h | ⟨x, hx, h2⟩
    · rcases stepI_of h with h | h
      · exact .inl h
      · exact .inr ⟨t, by simp, h⟩
    · exact .inr ⟨x, by simp [hx], h2⟩
theorem foldI_at {w : Int} (l : List Int) : ∀ {o : List Bool} {t : Int}, t ∈ l → t ≠ w → t.toNat < o.length → (l.foldl (stepI w) o).getD t.toNat false = true := by
  induction l with
  | nil => intro o t h; simp at h
  | cons x l ih =>
    intro o t h hw hl
    rcases List.mem_cons.1 h with rfl | h
    · exact foldI_keep l (stepI_at hw hl)
    · exact ih h hw (by rw [stepI_len]; exact hl)
theorem stepB_keep {g : List (List Int)} {w : Int} {o : List Bool} {a b : Nat} (h : o.getD b false = true) : (stepB g w o a).getD b false = true := by
  unfold stepB; split; exact foldI_keep _ h; exact h
theorem partG_keep {g : List (List Int)} {w : Int} {o : List Bool} {b : Nat} (h : o.getD b false = true) : ∀ n, (partG g w n o).getD b false = true
  | 0 => h
  | n + 1 => by rw [partG_succ]; exact stepB_keep (partG_keep h n)
theorem rounds_way {g : List (List Int)} {w : Int} {n : Nat} (hg : GIn g n) : ∀ (k : Nat) (o : List Bool), (∀ b : Nat, o.getD b false = true → Way g w b) → ∀ b : Nat, (roundsG g w k o).getD b false = true → Way g w b := by
  have part : ∀ (m : Nat) (o : List Bool), (∀ b : Nat, o.getD b false = true → Way g w b) → ∀ b : Nat, (partG g w m o).getD b false = true → Way g w b := by
    intro m
    induction m with
    | zero => exact fun o h => h
    | succ m ih =>
      intro o h b hb
      rw [partG_succ] at hb
      unfold stepB at hb
      split at hb
      · rename_i hm
        rcases foldI_of _ hb with h2 | ⟨t, ht, htw, e⟩
        · exact ih o h b h2
        · have := hg.at ht
          have hw := Way.step (ih o h m hm) (by simpa using ht) htw
          rwa [show (b : Int) = t from by omega]
      · exact ih o h b hb
  intro k
  induction k with
  | zero => exact fun o h => h
  | succ k ih => exact fun o h b hb => part _ _ (ih o h) b hb
theorem part_fix {g : List (List Int)} {w : Int} {o : List Bool} (hg : GIn g o.length) (h : ∀ b : Nat, (partG g w g.length o).getD b false = true → o.getD b false = true) {a : Nat} (ha : o.getD a false = true) {t : Int} (ht : t ∈ g.getD a []) (hw : t ≠ w) :
    o.getD t.toNat false = true := by
  have hag : a < g.length := by
    rw [List.getD_eq_getElem?_getD] at ht
    cases hga : g[a]? with
    | none => rw [hga] at ht; simp at ht
    | some l => exact (List.getElem?_eq_some_iff.1 hga).1
  refine h _ ?_
  have up : ∀ m, a < m → (partG g w m o).getD t.toNat false = true := by
    intro m
    induction m with
    | zero => intro h; omega
    | succ m ih =>
      intro hm
      rw [partG_succ]
      by_cases e : a = m
      · subst e
        unfold stepB
        rw [if_pos (partG_keep ha _)]
        exact foldI_at _ ht hw (by rw [partG_len]; have := hg.at ht; omega)
      · exact stepB_keep (ih (by omega))
  exact up _ hag
theorem rounds_stop {g : List (List Int)} {w : Int} {o : List Bool} : ∀ k : Nat, (∃ j, j ≤ k ∧ ∀ b : Nat, (roundsG g w (j + 1) o).getD b false = true → (roundsG g w j o).getD b false = true) ∨ unseen (roundsG g w (k + 1) o) + (k + 1) ≤ unseen o := by
  intro k
  have one : ∀ s : List Bool, (∀ b : Nat, (partG g w g.length s).getD b false = true → s.getD b false = true) ∨ unseen (partG g w g.length s) + 1 ≤ unseen s := by
    intro s
    by_cases h : ∀ b : Nat, (partG g w g.length s).getD b false = true → s.getD b false = true
    · exact .inl h
    · right
      simp only [Classical.not_forall] at h
      obtain ⟨b, hb1, hb2⟩ := h
      have hb2 : s.getD b false = false := by simpa using hb2
      have hl : b < s.length := by
        have : b < (partG g w g.length s).length := by
          rw [List.getD_eq_getElem?_getD] at hb1
          cases hx : (partG g w g.length s)[b]? with
          | none => rw [hx] at hb1; simp at hb1
          | some x => exact (List.getElem?_eq_some_iff.1 hx).1
        rwa [partG_len] at this
      have := unseen_set hl hb2
      have h2 := unseen_le (s := s.set b true) (s' := partG g w g.length s) (by rw [partG_len]; simp) (fun c hc => by
        rcases set_true_of hc with rfl | hc
        · exact hb1
        · exact partG_keep hc _)
      omega
  induction k with
  | zero =>
    rcases one (roundsG g w 0 o) with h | h
    · exact .inl ⟨0, Nat.le_refl _, h⟩
    · exact .inr h
  | succ k ih =>
    rcases ih with ⟨j, h1, h2⟩ | h
    · exact .inl ⟨j, by omega, h2⟩
    · rcases one (roundsG g w (k + 1) o) with h' | h'
      · exact .inl ⟨k + 1, Nat.le_refl _, h'⟩
      · refine .inr ?_
        have e : roundsG g w (k + 1 + 1) o = partG g w g.length (roundsG g w (k + 1) o) := rfl
        rw [e]; omega
theorem getD_ext : ∀ {s s' : List Bool}, s.length = s'.length → (∀ b : Nat, s.getD b false = true ↔ s'.getD b false = true) → s = s'
  | [], [], _, _ => rfl
  | a :: s, a' :: s', hl, h => by
    have h0 := h 0
    have := getD_ext (s := s) (s' := s') (by simpa using hl) fun b => by simpa using h (b + 1)
    subst this
    cases a <;> cases a' <;> simp at h0 ⊢
  | [], _ :: _, hl, _ => by simp at hl
  | _ :: _, [], hl, _ => by simp at hl
theorem reached_way {g : List (List Int)} {w : Int} (hg : GOk g) (b : Nat) : (reachedR g w).getD b false = true ↔ Way g w b := by
  have hin : GIn g g.length := ⟨hg.ok⟩
  unfold reachedR
  by_cases h0 : (w == 0) = true
  · rw [if_pos h0]
    have e : w = 0 := by simpa using h0
    subst e
    constructor
    · intro h
      rw [List.getD_eq_getElem?_getD, List.getElem?_replicate] at h
      split at h <;> simp at h
    · intro h
      have : ∀ v : Int, Way g 0 v → False := by
        intro v hv
        induction hv with
        | zero h => exact h rfl
        | step _ _ _ ih => exact ih
      exact (this _ h).elim
  · rw [if_neg h0]
    have hw0 : (0 : Int) ≠ w := fun e => h0 (by simp [← e])
    have hpos := hg.pos
    have hfirst : ∀ b : Nat, (firstG g).getD b false = true ↔ b = 0 := by
      intro b
      unfold firstG
      constructor
      · intro h
        rcases set_true_of h with e | e
        · exact e
        · rw [List.getD_eq_getElem?_getD, List.getElem?_replicate] at e
          split at e <;> simp at e
      · rintro rfl; exact set_true_at (by simpa using hpos)
    refine ⟨rounds_way hin _ _ (fun b h => by rw [(hfirst b).1 h]; exact .zero hw0) b, fun h => ?_⟩
    -- closed at the end
    have keepR : ∀ j k (b : Nat), (roundsG g w j (firstG g)).getD b false = true → (roundsG g w (j + k) (firstG g)).getD b false = true := by
      intro j k b h
      induction k with
      | zero => exact h
      | succ k ih => exact partG_keep ih _
    have hclosed : ∀ (a : Nat), (roundsG g w g.length (firstG g)).getD a false = true → ∀ t ∈ g.getD a [], t ≠ w → (roundsG g w g.length (firstG g)).getD t.toNat false = true := by
      obtain ⟨m, hm⟩ : ∃ m, g.length = m + 1 := ⟨g.length - 1, by omega⟩
      rcases rounds_stop (g := g) (w := w) (o := firstG g) m with ⟨j, hj, hfix⟩ | hcount
      · -- nothing changes from the round j on
        have same : ∀ k, ∀ b : Nat, (roundsG g w (j + k) (firstG g)).getD b false = true → (roundsG g w j (firstG g)).getD b false = true := by
          intro k
          induction k with
          | zero => exact fun b h => h
          | succ k ih =>
            intro b h
            have e : roundsG g w (j + k) (firstG g) = roundsG g w j (firstG g) := getD_ext (by rw [roundsG_len, roundsG_len]) fun c => ⟨ih c, keepR j k c⟩
            have : roundsG g w (j + (k + 1)) (firstG g) = partG g w g.length (roundsG g w j (firstG g)) := by rw [← e]; rfl
            rw [this] at h
            exact hfix b h
        have e : roundsG g w g.length (firstG g) = roundsG g w j (firstG g) := getD_ext (by rw [roundsG_len, roundsG_len]) fun c => by
          have h1 := same (g.length - j) c
          have h2 := keepR j (g.length - j) c
          rw [show j + (g.length - j) = g.length from by omega] at h1 h2
          exact ⟨h1, h2⟩
        intro a ha t ht htw
        rw [e] at ha ⊢
        exact part_fix (by rw [roundsG_len, firstG_len]; exact hin) hfix ha ht htw
      · exfalso
        have h1 : unseen (firstG g) < g.length := by
          have := unseen_set (s := List.replicate g.length false) (i := 0) (by simpa using hpos) (by
            rw [List.getD_eq_getElem?_getD, List.getElem?_replicate]; split <;> rfl)
          have h2 := List.countP_le_length (p := fun b : Bool => !b) (l := List.replicate g.length false)
          rw [List.length_replicate] at h2
          unfold firstG
          unfold unseen at this ⊢
          omega
        omega
    have key : ∀ v : Int, Way g w v → 0 ≤ v ∧ (roundsG g w g.length (firstG g)).getD v.toNat false = true := by
      intro v hv
      induction hv with
      | zero h =>
        refine ⟨by omega, ?_⟩
        have := keepR 0 g.length 0 ((hfirst 0).2 rfl)
        rw [Nat.zero_add] at this
        exact this
      | step h ht hw ih => exact ⟨(hin.at ht).1, hclosed _ ih.2 _ ht hw⟩
    simpa using (key b h).2
end Go.AL
namespace Go.AL
structure GG (g : List (List Int)) : Prop extends GOk g where
  small : g.length ≤ 10
  two : ∀ l ∈ g, l.length ≤ 2
def boolA (s : List Bool) : List A := s.map fun b => .v (.bool b)
theorem boolA_get {s : List Bool} (hs : s.length = 10) {v : Int} (h1 : v < 10) : (boolA s)[0 + v.toNat * 1]? = some (.v (.bool (s.getD v.toNat false))) := by
  have : v.toNat < s.length := by omega
  rw [Nat.zero_add, Nat.mul_one, boolA, List.getElem?_map, List.getElem?_eq_getElem this, List.getD_eq_getElem?_getD, List.getElem?_eq_getElem this]; rfl
theorem boolA_put {s : List Bool} {v : Int} {b : Bool} : putC (boolA s) (0 + v.toNat * 1) [.v (.bool b)] = boolA (s.set v.toNat b) := by
  rw [Nat.zero_add, Nat.mul_one]
  simp [putC, boolA, List.map_set]
theorem boolA_len {s : List Bool} : (boolA s).length = s.length := by simp [boolA]
def capV (g : List (List Int)) (w : Int) : Nat → A
  | 0 => .any
  | k + 1 => .prv [.clo 234 [.prv [.v (.int .i64 w)], .pt 234001 0, .prv [.dat none (.sl 1 (g.map rowD))], capV g w k]]
theorem capV_vw {g : List (List Int)} {w : Int} {objs : Nat → Option O} {pre : List (Nat × O)} (h : keyIn pre 234001 = true) : ∀ k, Vw objs pre id (capV g w k) (capV g w k)
  | 0 => .any _
  | k + 1 => Vw.prvOf (.cons (Vw.cloOf (.cons (Vw.prvOf (.cons (.v _) .nil)) (.cons (.ptL (ρ := id) 234001 0 h) (.cons (Vw.prvOf (.cons (.datn _) .nil)) (.cons (capV_vw h k) .nil))))) .nil)
theorem capV_kill {g : List (List Int)} {w : Int} {K L : Nat → Bool} (h : K 234001 = false) : ∀ k, (capV g w k).kill K L = capV g w k := by
  have hit : ∀ k, (capV g w k).hit K L = false := by
    intro k
    induction k with
    | zero => rfl
    | succ k ih => simp only [capV, A.hit, hitL, ih, h, Bool.or_self]
  intro k
  rw [A.kill_eq, hit]; rfl
theorem capV_within {g : List (List Int)} {w : Int} {K : Nat → Bool} (h : K 234001 = true) : ∀ k, (capV g w k).within K = true
  | 0 => rfl
  | k + 1 => by simp only [capV, A.within, withinL, capV_within h k, h, Bool.and_self]
theorem capV_of {g : List (List Int)} {w : Int} {objs : Nat → Option O} {pre : List (Nat × O)} {ρ : Nat → Nat} {kb ks kg kv : Nat} (hb : objs kb = some (.var [.v (.int .i64 w)])) (hg : objs kg = some (.var [.dat none (.sl 1 (g.map rowD))]))
    (hv : objs kv = some (.var [.clo 234 [.pt kb 0, .pt ks 0, .pt kg 0, .pt kv 0]])) (h1 : NL pre ρ kb = true) (h2 : NL pre ρ kg = true) (h3 : NL pre ρ kv = true) (h4 : keyIn pre 234001 = true) (h5 : ρ 234001 = ks) :
    ∀ k, Vw objs pre ρ (.pt kv 0) (capV g w k)
  | 0 => .any _
  | k + 1 => by
    refine Vw.ptOf hv h3 rfl (.cons (Vw.cloOf (.cons (Vw.ptOf hb h1 rfl (.cons (.v _) .nil)) (.cons ?_ (.cons (Vw.ptOf hg h2 rfl (.cons (.datn _) .nil)) (.cons (capV_of hb hg hv h1 h2 h3 h4 h5 k) .nil))))) .nil)
    rw [← h5]; exact .ptL 234001 0 h4
def reachI (g : List (List Int)) (w : Int) : List Bool := visitR 11 g w 0 (List.replicate 10 false)
theorem visitR_keep {g : List (List Int)} {w : Int} : ∀ (k : Nat) (v : Int) (s : List Bool) (b : Nat), s.getD b false = true → (visitR k g w v s).getD b false = true
  | 0, _, _, _, h => h
  | k + 1, v, s, b, h => by
    unfold visitR
    split
    · exact h
    · have : ∀ (l : List Int) (s1 : List Bool), s1.getD b false = true → (l.foldl (fun s t => visitR k g w t s) s1).getD b false = true := by
        intro l
        induction l with
        | nil => exact fun _ h => h
        | cons t l ih => exact fun s1 h1 => ih _ (visitR_keep k t s1 b h1)
      exact this _ _ (set_true_keep h)
theorem foldV_keep {g : List (List Int)} {w : Int} {k b : Nat} : ∀ (l : List Int) (s1 : List Bool), s1.getD b false = true → (l.foldl (fun s t => visitR k g w t s) s1).getD b false = true
  | [], _, h => h
  | t :: l, s1, h => foldV_keep l _ (visitR_keep k t s1 b h)
theorem foldV_len {g : List (List Int)} {w : Int} {k : Nat} (l : List Int) (s : List Bool) : (l.foldl (fun s t => visitR k g w t s) s).length = s.length := foldl_len (fun s t => visitR_len g w k t s) l s
def listN (s : List Bool) (n : Nat) : List Int := ((List.range n).filter fun i => s.getD i false).map fun (i : Nat) => (i : Int)
def listI (s : List Bool) : List Int := listN s 10
theorem listN_succ (s : List Bool) (n : Nat) : listN s (n + 1) = if s.getD n false then listN s n ++ [(n : Int)] else listN s n := by
  unfold listN
  rw [List.range_succ, List.filter_append, List.map_append]
  by_cases h : s.getD n false = true
  · rw [if_pos h]; simp only [List.filter_cons, h, if_true, List.filter_nil, List.map_cons, List.map_nil]
  · rw [if_neg h]; simp only [List.filter_cons, h, List.filter_nil, List.map_nil, List.append_nil]; simp
theorem listN_le (s : List Bool) (n : Nat) : (listN s n).length ≤ n := by
  unfold listN
  rw [List.length_map]
  exact Nat.le_trans (List.length_filter_le _ _) (by simp)
def beforeB (g : List (List Int)) (v : Int) (n : Nat) : List Bool := (List.range 10).map fun i => decide (i < n) && hasR (g.getD i []) v
theorem beforeB_len {g : List (List Int)} {v : Int} {n : Nat} : (beforeB g v n).length = 10 := by simp [beforeB]
theorem beforeB_succ {g : List (List Int)} {v : Int} {n : Nat} (hn : n < 10) : (beforeB g v n).set n (hasR (g.getD n []) v) = beforeB g v (n + 1) := by
  apply List.ext_getElem
  · simp [beforeB]
  · intro i h1 h2
    rw [List.getElem_set]
    simp only [beforeB, List.getElem_map, List.getElem_range]
    split
    · rename_i e; subst e; simp
    · rename_i e
      congr 1
      rw [decide_eq_decide]; omega
theorem beforeB_list {g : List (List Int)} {v : Int} (hg : g.length ≤ 10) : listI (beforeB g v g.length) = beforeR g v := by
  unfold listI listN beforeR beforeN
  congr 1
  have : ∀ n, n ≤ 10 → g.length ≤ n → (List.range n).filter (fun i => (beforeB g v g.length).getD i false) = (List.range g.length).filter fun b => hasR (g.getD b []) v := by
    intro n
    induction n with
    | zero => intro _ h; rw [show g.length = 0 by omega]; rfl
    | succ n ih =>
      intro h1 h2
      by_cases e : g.length = n + 1
      · rw [e]
        refine List.filter_congr fun i hi => ?_
        have hi' : i < n + 1 := List.mem_range.1 hi
        rw [← e]
        simp [beforeB, List.getD_eq_getElem?_getD, show i < 10 by omega, show i < g.length by omega]
      · rw [List.range_succ, List.filter_append, ih (by omega) (by omega)]
        simp [beforeB, List.getD_eq_getElem?_getD, show n < 10 by omega, show ¬ n < g.length by omega]
  exact this 10 (Nat.le_refl _) hg
end Go.AL
namespace Go.AL
open Go.Proofs
def idxG (l : List (List Int)) (p : List Int → Bool) : Int := match l.findIdx? p with | some i => (i : Int) | none => -1
theorem idxG_any (l : List (List Int)) (p : List Int → Bool) : decide (idxG l p ≥ 0) = l.any p := by
  unfold idxG
  cases h : l.findIdx? p with
  | none =>
    have := List.findIdx?_eq_none_iff.1 h
    symm
    simp only [show decide ((-1 : Int) ≥ 0) = false from rfl]
    exact List.any_eq_false.2 fun x hx => by simp [this x hx]
  | some i =>
    obtain ⟨hi, hp, _⟩ := List.findIdx?_eq_some_iff_getElem.1 h
    symm
    simp only [show decide (((i : Nat) : Int) ≥ 0) = true from by simp]
    exact List.any_eq_true.2 ⟨l[i], List.getElem_mem hi, hp⟩
theorem e204 : Enters Tryz.prog 204 := enters_of Tryz.func204 (by kernel_rfl) (by kernel_rfl)
set_option maxRecDepth 100000 in
set_option maxHeartbeats 4000000 in
theorem c204 (l : List Int) (n : Int) (hl : l.length < 1000000) : Ok Tryz.prog 204 [.dat none (.sl 1 (ints l)), .v (.int .i64 n)] [] (.v (.int .i64 (idxR l (fun x => n == x)))) [] := by
  refine ok_of e204 Tryz.func204 rfl (by kernel_rfl) ?_
  intro cx hP hro hN hvk
  obtain ⟨P, ro, w0, Bin, N, R0, tk0, bl0, vk⟩ := cx
  subst hP hro hN
  have hvkd := vkd_of hvk
  refine aw_seq ?_
  refine aw_region ?_
  refine al_op rfl rfl rfl (opP_assign rfl (ev_const rfl)) ?_
  refine al_nil ?_
  refine aw_seq ?_
  refine aw_seq ?_
  refine aw_region ?_
  refine al_op rfl rfl rfl (opP_move rfl (ev_tmp rfl)) ?_
  refine al_op rfl rfl rfl (opP_len rfl u22 (ev_tmp rfl) (by first | exact lenA_ints | exact lenA_map | rfl)) ?_
  refine al_op rfl rfl rfl (opP_move rfl (ev_const rfl)) ?_
  refine al_nil ?_
  refine aw_block ?_
  refine aw_loop' (α := Nat) (fun i => [(0, .dat none (.sl 1 (ints l))), (1, .v (.int .i64 n)), (7, .v (.int .i64 l.length)), (8, .v (.int .i64 i))]) (fun i => []) (fun i => i ≤ l.length ∧ ∀ x ∈ l.take i, (n == x) = false) (fun i => l.length - i) 0 ⟨Nat.zero_le _, fun x hx => by simp at hx⟩ id (Fit.of trivial ⟨rfl, rfl, rfl, rfl, trivial⟩ rfl rfl) ?_
  rintro i ⟨hi, hno⟩
  refine aw_seq ?_
  refine aw_region ?_
  refine al_op rfl rfl rfl (opP_bin rfl (ev_tmp rfl) (ev_tmp rfl) rfl) ?_
  refine al_nil ?_
  refine aw_seq ?_
  refine aw_condS rfl (fun h1 => ?_) (fun h1 => ?_)
  · refine aw_exit ?_
    refine aw_seq ?_
    refine aw_region ?_
    refine al_op rfl rfl rfl (opP_assign rfl (ev_const rfl)) ?_
    refine al_nil ?_
    refine aw_ret ?_
    have e : idxR l (fun x => n == x) = -1 := by
      have e0 : i = l.length := by simp at h1; omega
      rw [e0, List.take_length] at hno
      unfold idxR
      rw [List.findIdx?_eq_none_iff.2 hno]
    rw [e]; exact ret_id _ (.tmp rfl .nil) rfl trivial rfl rfl
  have hil : i < l.length := by simpa using h1
  refine aw_skip ?_
  refine aw_seq ?_
  refine aw_block ?_
  refine aw_seq ?_
  refine aw_region ?_
  refine al_op rfl rfl rfl (opP_move rfl (ev_tmp rfl)) ?_
  refine al_op rfl rfl rfl (opP_assign rfl (ev_tmp rfl)) ?_
  refine al_nil ?_
  refine aw_seq ?_
  refine aw_region ?_
  refine al_op rfl rfl rfl (opP_move rfl (ev_tmp rfl)) ?_
  refine al_op rfl rfl rfl (opP_move rfl (ev_tmp rfl)) ?_
  refine al_op rfl rfl rfl (opP_move rfl (ev_tmp rfl)) ?_
  refine al_op rfl rfl rfl (opP_index_dat rfl u22 s3 (ev_tmp rfl) (ev_tmp rfl) (fun _ => Int.natCast_nonneg _) (fun _ => ints_get hil)) ?_
  refine al_op rfl rfl rfl (opP_load_pr rfl u3 rfl (ev_tmp rfl)) ?_
  refine al_op rfl rfl rfl (opP_bin rfl (ev_tmp rfl) (ev_tmp rfl) rfl) ?_
  refine al_nil ?_
  refine aw_cond rfl (fun h2 => ?_) (fun h2 => ?_)
  · refine aw_seq ?_
    refine aw_region ?_
    refine al_op rfl rfl rfl (opP_move rfl (ev_tmp rfl)) ?_
    refine al_op rfl rfl rfl (opP_assign rfl (ev_tmp rfl)) ?_
    refine al_nil ?_
    refine aw_ret ?_
    have e : idxR l (fun x => n == x) = i := by
      unfold idxR
      rw [List.findIdx?_eq_some_iff_getElem.2 ⟨hil, h2, fun j hj => by simpa using hno l[j] (by rw [List.mem_take_iff_getElem]; exact ⟨j, by omega, rfl⟩)⟩]
    rw [e]; exact ret_id _ (.tmp rfl .nil) rfl trivial rfl rfl
  refine aw_skip ?_
  refine aw_region ?_
  refine al_op rfl rfl rfl (opP_bin rfl (ev_tmp rfl) (ev_const rfl) rfl) ?_
  refine al_op rfl rfl rfl (opP_move rfl (ev_tmp rfl)) ?_
  refine al_nil ?_
  refine ⟨i + 1, id, ⟨hil, fun x hx => ?_⟩, by omega, Fit.of trivial ⟨rfl, rfl, rfl, by rw [← wrapS (by omega)]; rfl, trivial⟩ rfl rfl⟩
  rw [List.take_succ_eq_append_getElem hil] at hx
  rcases List.mem_append.1 hx with hx | hx
  · exact hno x hx
  · have e : x = l[i] := by simpa using hx
    rw [e]; exact h2
theorem e171 : Enters Tryz.prog 171 := enters_of Tryz.func171 (by kernel_rfl) (by kernel_rfl)
set_option maxRecDepth 100000 in
set_option maxHeartbeats 4000000 in
theorem c171 (l : List Int) (n : Int) (hl : l.length < 1000000) : Ok Tryz.prog 171 [.dat none (.sl 1 (ints l)), .v (.int .i64 n)] [] (.v (.bool (hasR l n))) [] := by
  refine ok_of e171 Tryz.func171 rfl (by kernel_rfl) ?_
  intro cx hP hro hN hvk
  obtain ⟨P, ro, w0, Bin, N, R0, tk0, bl0, vk⟩ := cx
  subst hP hro hN
  have hvkd := vkd_of hvk
  refine aw_seq ?_
  refine aw_region ?_
  refine al_op rfl rfl rfl (opP_assign rfl (ev_const rfl)) ?_
  refine al_nil ?_
  refine aw_seq ?_
  refine aw_region ?_
  refine al_op rfl rfl rfl (opP_move rfl (ev_tmp rfl)) ?_
  refine al_op rfl rfl rfl (opP_move rfl (ev_tmp rfl)) ?_
  refine al_call (id) rfl rfl rfl (callOf_func rfl (.cons (ev_tmp rfl) (.cons (ev_tmp rfl) .nil))) (c204 l n hl) (by repeat' (first | refine Vw.stDOf ?_ | refine Vw.ptOf rfl rfl rfl ?_ | refine Vw.prvOf ?_ | refine Vw.cloOf ?_ | constructor)) (fun _ h => absurd h (by simp)) rfl rfl rfl (fun _ h => absurd h (by simp)) ?_
  refine al_op rfl rfl rfl (opP_bin rfl (ev_tmp rfl) (ev_const rfl) rfl) ?_
  refine al_op rfl rfl rfl (opP_assign rfl (ev_tmp rfl)) ?_
  refine al_nil ?_
  refine aw_ret ?_
  exact ret_id ([.v (.bool _)]) (.tmp rfl .nil) (congrArg (fun b => A.v (.bool b)) ((idx_any l _).trans (by unfold hasR; congr 1; funext x; exact Bool.beq_comm))) (by first | exact trivial | exact ⟨rfl, trivial⟩ | exact ⟨rfl, rfl, trivial⟩ | exact ⟨rfl, rfl, rfl, trivial⟩ | exact ⟨rfl, rfl, rfl, rfl, trivial⟩) rfl rfl
theorem e232 : Enters Tryz.prog 232 := enters_of Tryz.func232 (by kernel_rfl) (by kernel_rfl)
set_option maxRecDepth 100000 in
set_option maxHeartbeats 4000000 in
theorem c232 (l : List Int) : Ok Tryz.prog 232 [.dat none (rowD l)] [] (.v (.bool (decide ((l.length : Int) > 2)))) [] := by
  refine ok_of e232 Tryz.func232 rfl (by kernel_rfl) ?_
  intro cx hP hro hN hvk
  obtain ⟨P, ro, w0, Bin, N, R0, tk0, bl0, vk⟩ := cx
  subst hP hro hN
  have hvkd := vkd_of hvk
  refine aw_seq ?_
  refine aw_region ?_
  refine al_op rfl rfl rfl (opP_assign rfl (ev_const rfl)) ?_
  refine al_nil ?_
  refine aw_seq ?_
  refine aw_region ?_
  refine al_op rfl rfl rfl (opP_move rfl (ev_tmp rfl)) ?_
  refine al_op rfl rfl rfl (opP_len rfl u22 (ev_tmp rfl) lenA_ints) ?_
  refine al_op rfl rfl rfl (opP_bin rfl (ev_tmp rfl) (ev_const rfl) rfl) ?_
  refine al_op rfl rfl rfl (opP_assign rfl (ev_tmp rfl)) ?_
  refine al_nil ?_
  refine aw_ret ?_
  exact ret_id _ (.tmp rfl .nil) rfl trivial rfl rfl
theorem e262 : Enters Tryz.prog 262 := enters_of Tryz.func262 (by kernel_rfl) (by kernel_rfl)
set_option maxRecDepth 100000 in
set_option maxHeartbeats 4000000 in
theorem c262 (fc : Nat) (caps : List A) (l : List (List Int)) (p : List Int → Bool) (hl : l.length < 1000000) (hcv : ∀ objs, VwL objs [] id caps caps) (hok : ∀ x ∈ l, Ok Tryz.prog fc (.dat none (rowD x) :: caps) [] (.v (.bool (p x))) []) : Ok Tryz.prog 262 [.dat none (.sl 1 (l.map rowD)), .clo fc caps] [] (.v (.int .i64 (idxG l p))) [] := by
  refine ok_of e262 Tryz.func262 rfl (by kernel_rfl) ?_
  intro cx hP hro hN hvk
  obtain ⟨P, ro, w0, Bin, N, R0, tk0, bl0, vk⟩ := cx
  subst hP hro hN
  have hvkd := vkd_of hvk
  have hcw : withinL (keyIn []) caps = true := within_vw (hcv fun _ => none)
  refine aw_seq ?_
  refine aw_region ?_
  refine al_op rfl rfl rfl (opP_assign rfl (ev_const rfl)) ?_
  refine al_nil ?_
  refine aw_seq ?_
  refine aw_seq ?_
  refine aw_region ?_
  refine al_op rfl rfl rfl (opP_move rfl (ev_tmp rfl)) ?_
  refine al_op rfl rfl rfl (opP_len rfl u47 (ev_tmp rfl) (by first | exact lenA_ints | exact lenA_map | rfl)) ?_
  refine al_op rfl rfl rfl (opP_move rfl (ev_const rfl)) ?_
  refine al_nil ?_
  refine aw_block ?_
  refine aw_loop' (α := Nat) (fun i => [(0, .dat none (.sl 1 (l.map rowD))), (1, .clo fc caps), (7, .v (.int .i64 l.length)), (8, .v (.int .i64 i))]) (fun i => []) (fun i => i ≤ l.length ∧ ∀ x ∈ l.take i, p x = false) (fun i => l.length - i) 0 ⟨Nat.zero_le _, fun x hx => by simp at hx⟩ id (Fit.of trivial ⟨rfl, rfl, rfl, rfl, trivial⟩ rfl (by simp only [List.all_cons, List.all_nil, A.within, hcw, Bool.and_self])) ?_
  rintro i ⟨hi, hno⟩
  refine aw_seq ?_
  refine aw_region ?_
  refine al_op rfl rfl rfl (opP_bin rfl (ev_tmp rfl) (ev_tmp rfl) rfl) ?_
  refine al_nil ?_
  refine aw_seq ?_
  refine aw_condS rfl (fun h1 => ?_) (fun h1 => ?_)
  · refine aw_exit ?_
    refine aw_seq ?_
    refine aw_region ?_
    refine al_op rfl rfl rfl (opP_assign rfl (ev_const rfl)) ?_
    refine al_nil ?_
    refine aw_ret ?_
    have e : idxG l p = -1 := by
      have e0 : i = l.length := by simp at h1; omega
      rw [e0, List.take_length] at hno
      unfold idxG
      rw [List.findIdx?_eq_none_iff.2 hno]
    rw [e]; exact ret_id _ (.tmp rfl .nil) rfl trivial rfl rfl
  have hil : i < l.length := by simpa using h1
  refine aw_skip ?_
  refine aw_seq ?_
  refine aw_block ?_
  refine aw_seq ?_
  refine aw_region ?_
  refine al_op rfl rfl rfl (opP_move rfl (ev_tmp rfl)) ?_
  refine al_op rfl rfl rfl (opP_assign rfl (ev_tmp rfl)) ?_
  refine al_nil ?_
  refine aw_seq ?_
  refine aw_region ?_
  refine al_op rfl rfl rfl (opP_move rfl (ev_tmp rfl)) ?_
  refine al_op rfl rfl rfl (opP_move rfl (ev_tmp rfl)) ?_
  refine al_op rfl rfl rfl (opP_move rfl (ev_tmp rfl)) ?_
  refine al_op rfl rfl rfl (opP_index_dat rfl u47 s22 (ev_tmp rfl) (ev_tmp rfl) (fun _ => Int.natCast_nonneg _) (fun _ => rows_get hil)) ?_
  refine al_op rfl rfl rfl (opP_load_pr rfl u22 rfl (ev_tmp rfl)) ?_
  refine al_call id rfl rfl rfl (callOf_clo rfl (ev_tmp rfl) (.cons (ev_tmp rfl) .nil)) (hok l[i] (List.getElem_mem hil)) (.cons (.datn _) (hcv _)) (fun _ h => absurd h (by simp)) rfl rfl rfl (fun _ h => absurd h (by simp)) ?_
  refine al_nil ?_
  refine aw_cond rfl (fun h2 => ?_) (fun h2 => ?_)
  · refine aw_seq ?_
    refine aw_region ?_
    refine al_op rfl rfl rfl (opP_move rfl (ev_tmp rfl)) ?_
    refine al_op rfl rfl rfl (opP_assign rfl (ev_tmp rfl)) ?_
    refine al_nil ?_
    refine aw_ret ?_
    have e : idxG l p = i := by
      unfold idxG
      rw [List.findIdx?_eq_some_iff_getElem.2 ⟨hil, h2, fun j hj => by simpa using hno l[j] (by rw [List.mem_take_iff_getElem]; exact ⟨j, by omega, rfl⟩)⟩]
    rw [e]; exact ret_id _ (.tmp rfl .nil) rfl trivial rfl rfl
  refine aw_skip ?_
  refine aw_region ?_
  refine al_op rfl rfl rfl (opP_bin rfl (ev_tmp rfl) (ev_const rfl) rfl) ?_
  refine al_op rfl rfl rfl (opP_move rfl (ev_tmp rfl)) ?_
  refine al_nil ?_
  refine ⟨i + 1, id, ⟨hil, fun x hx => ?_⟩, by omega, Fit.of trivial ⟨rfl, kill_no (fun _ => rfl) (fun _ => rfl) (.clo fc caps), rfl, by rw [← wrapS (by omega)]; rfl, trivial⟩ rfl (by simp only [List.all_cons, List.all_nil, A.within, hcw, Bool.and_self])⟩
  rw [List.take_succ_eq_append_getElem hil] at hx
  rcases List.mem_append.1 hx with hx | hx
  · exact hno x hx
  · have e : x = l[i] := by simpa using hx
    rw [e]; simpa using h2
theorem e231 : Enters Tryz.prog 231 := enters_of Tryz.func231 (by kernel_rfl) (by kernel_rfl)
set_option maxRecDepth 100000 in
set_option maxHeartbeats 4000000 in
theorem c231 (fc : Nat) (caps : List A) (l : List (List Int)) (p : List Int → Bool) (hl : l.length < 1000000) (hcv : ∀ objs, VwL objs [] id caps caps) (hok : ∀ x ∈ l, Ok Tryz.prog fc (.dat none (rowD x) :: caps) [] (.v (.bool (p x))) []) : Ok Tryz.prog 231 [.dat none (.sl 1 (l.map rowD)), .clo fc caps] [] (.v (.bool (l.any p))) [] := by
  refine ok_of e231 Tryz.func231 rfl (by kernel_rfl) ?_
  intro cx hP hro hN hvk
  obtain ⟨P, ro, w0, Bin, N, R0, tk0, bl0, vk⟩ := cx
  subst hP hro hN
  have hvkd := vkd_of hvk
  refine aw_seq ?_
  refine aw_region ?_
  refine al_op rfl rfl rfl (opP_assign rfl (ev_const rfl)) ?_
  refine al_nil ?_
  refine aw_seq ?_
  refine aw_region ?_
  refine al_op rfl rfl rfl (opP_move rfl (ev_tmp rfl)) ?_
  refine al_op rfl rfl rfl (opP_move rfl (ev_tmp rfl)) ?_
  refine al_call id rfl rfl rfl (callOf_func rfl (.cons (ev_tmp rfl) (.cons (ev_tmp rfl) .nil))) (c262 fc caps l p hl hcv hok) (.cons (.datn _) (.cons (Vw.cloOf (hcv _)) .nil)) (fun _ h => absurd h (by simp)) rfl rfl rfl (fun _ h => absurd h (by simp)) ?_
  refine al_op rfl rfl rfl (opP_bin rfl (ev_tmp rfl) (ev_const rfl) rfl) ?_
  refine al_op rfl rfl rfl (opP_assign rfl (ev_tmp rfl)) ?_
  refine al_nil ?_
  refine aw_ret ?_
  exact ret_id ([.v (.bool _)]) (.tmp rfl .nil) (congrArg (fun b => A.v (.bool b)) (idxG_any l p)) (by first | exact trivial | exact ⟨rfl, trivial⟩ | exact ⟨rfl, rfl, trivial⟩ | exact ⟨rfl, rfl, rfl, trivial⟩ | exact ⟨rfl, rfl, rfl, rfl, trivial⟩) rfl rfl
theorem e233 : Enters Tryz.prog 233 := enters_of Tryz.func233 (by kernel_rfl) (by kernel_rfl)
set_option maxRecDepth 100000 in
set_option maxHeartbeats 4000000 in
theorem c233 (g : List (List Int)) (n : Int) : Ok Tryz.prog 233 [.v (.int .i64 n), .prv [.dat none (.sl 1 (g.map rowD))]] [] (.v (.bool (decide (n < 0) || decide (n ≥ g.length)))) [] := by
  refine ok_of e233 Tryz.func233 rfl (by kernel_rfl) ?_
  intro cx hP hro hN hvk
  obtain ⟨P, ro, w0, Bin, N, R0, tk0, bl0, vk⟩ := cx
  subst hP hro hN
  have hvkd := vkd_of hvk
  refine aw_seq ?_
  refine aw_region ?_
  refine al_op rfl rfl rfl (opP_assign rfl (ev_const rfl)) ?_
  refine al_nil ?_
  refine aw_seq ?_
  refine aw_region ?_
  refine al_op rfl rfl rfl (opP_move rfl (ev_tmp rfl)) ?_
  refine al_op rfl rfl rfl (opP_bin rfl (ev_tmp rfl) (ev_const rfl) rfl) ?_
  refine al_op rfl rfl rfl (opP_move rfl (ev_tmp rfl)) ?_
  refine al_opg rfl rfl rfl rfl rfl rfl (opP_move rfl (ev_tmp rfl)) ?_
  refine al_opg rfl rfl rfl rfl rfl rfl (opP_load_prv rfl u47 rfl (ev_tmp rfl)) ?_
  refine al_opg rfl rfl rfl rfl rfl rfl (opP_len rfl u47 (ev_when rfl id) (by first | exact lenA_ints | exact lenA_map | rfl)) ?_
  refine al_opg rfl rfl rfl rfl rfl rfl (opP_bin rfl (ev_when rfl id) (ev_when rfl id) rfl) ?_
  refine al_op rfl rfl rfl (opP_or rfl (ev_tmp rfl) (ev_when rfl id)) ?_
  refine al_op rfl rfl rfl (opP_assign rfl (ev_tmp rfl)) ?_
  refine al_nil ?_
  refine aw_ret ?_
  exact ret_id _ (.tmp rfl .nil) rfl trivial rfl rfl
theorem e238 : Enters Tryz.prog 238 := enters_of Tryz.func238 (by kernel_rfl) (by kernel_rfl)
set_option maxRecDepth 100000 in
set_option maxHeartbeats 4000000 in
theorem c238 (g : List (List Int)) (n : Int) : Ok Tryz.prog 238 [.v (.int .i64 n), .prv [.dat none (.sl 1 (g.map rowD))]] [] (.v (.bool (decide (n < 0) || decide (n ≥ g.length)))) [] := by
  refine ok_of e238 Tryz.func238 rfl (by kernel_rfl) ?_
  intro cx hP hro hN hvk
  obtain ⟨P, ro, w0, Bin, N, R0, tk0, bl0, vk⟩ := cx
  subst hP hro hN
  have hvkd := vkd_of hvk
  refine aw_seq ?_
  refine aw_region ?_
  refine al_op rfl rfl rfl (opP_assign rfl (ev_const rfl)) ?_
  refine al_nil ?_
  refine aw_seq ?_
  refine aw_region ?_
  refine al_op rfl rfl rfl (opP_move rfl (ev_tmp rfl)) ?_
  refine al_op rfl rfl rfl (opP_bin rfl (ev_tmp rfl) (ev_const rfl) rfl) ?_
  refine al_op rfl rfl rfl (opP_move rfl (ev_tmp rfl)) ?_
  refine al_opg rfl rfl rfl rfl rfl rfl (opP_move rfl (ev_tmp rfl)) ?_
  refine al_opg rfl rfl rfl rfl rfl rfl (opP_load_prv rfl u47 rfl (ev_tmp rfl)) ?_
  refine al_opg rfl rfl rfl rfl rfl rfl (opP_len rfl u47 (ev_when rfl id) (by first | exact lenA_ints | exact lenA_map | rfl)) ?_
  refine al_opg rfl rfl rfl rfl rfl rfl (opP_bin rfl (ev_when rfl id) (ev_when rfl id) rfl) ?_
  refine al_op rfl rfl rfl (opP_or rfl (ev_tmp rfl) (ev_when rfl id)) ?_
  refine al_op rfl rfl rfl (opP_assign rfl (ev_tmp rfl)) ?_
  refine al_nil ?_
  refine aw_ret ?_
  exact ret_id _ (.tmp rfl .nil) rfl trivial rfl rfl
theorem e200 : Enters Tryz.prog 200 := enters_of Tryz.func200 (by kernel_rfl) (by kernel_rfl)
set_option maxRecDepth 100000 in
set_option maxHeartbeats 4000000 in
theorem c200 (g : List (List Int)) (hg : GG g) : Ok Tryz.prog 200 [.dat none (.sl 1 (g.map rowD))] [] (.v (.int .i64 0)) [] := by
  refine ok_of e200 Tryz.func200 rfl (by kernel_rfl) ?_
  intro cx hP hro hN hvk
  obtain ⟨P, ro, w0, Bin, N, R0, tk0, bl0, vk⟩ := cx
  subst hP hro hN
  have hvkd := vkd_of hvk
  have h10 := hg.small
  have hpos := hg.pos
  refine aw_seq ?_
  refine aw_region ?_
  refine al_opc (k := 101) rfl rfl rfl ((hvk _).trans rfl) (opC_box rfl (ev_tmp rfl) rfl) ?_
  refine al_op rfl rfl rfl (opP_assign rfl (ev_const rfl)) ?_
  refine al_nil ?_
  refine aw_seq ?_
  refine aw_seq ?_
  refine aw_region ?_
  refine al_op rfl rfl rfl (opP_load_pt rfl u47 rfl (ev_tmp rfl) rfl rfl) ?_
  refine al_op rfl rfl rfl (opP_len rfl u47 (ev_tmp rfl) (by first | exact lenA_ints | exact lenA_map | rfl)) ?_
  refine al_op rfl rfl rfl (opP_bin rfl (ev_tmp rfl) (ev_const rfl) rfl) ?_
  refine al_op rfl rfl rfl (opP_move rfl (ev_tmp rfl)) ?_
  refine al_opg rfl rfl rfl rfl rfl rfl (opP_load_pt rfl u47 rfl (ev_tmp rfl) rfl rfl) ?_
  refine al_opg rfl rfl rfl rfl rfl rfl (opP_len rfl u47 (ev_when rfl id) (by first | exact lenA_ints | exact lenA_map | rfl)) ?_
  refine al_opg rfl rfl rfl rfl rfl rfl (opP_bin rfl (ev_when rfl id) (ev_const rfl) rfl) ?_
  refine al_op rfl rfl rfl (opP_or rfl (ev_tmp rfl) (ev_when rfl id)) ?_
  refine al_op rfl rfl rfl (opP_move rfl (ev_tmp rfl)) ?_
  refine al_opg rfl rfl rfl rfl rfl rfl (opP_load_pt rfl u47 rfl (ev_tmp rfl) rfl rfl) ?_
  refine al_stepD rfl rfl (stepD_callg rfl rfl rfl rfl (callOf_func rfl (.cons (ev_when rfl id) (.cons ev_func .nil))) (fun gd => c231 232 [] g (fun l => decide ((l.length : Int) > 2)) hg.len (fun _ => .nil) (fun y _ => c232 y)) (fun gd => (.cons (.datn _) (.cons (Vw.cloOf .nil) .nil))) rfl (fun _ => rfl)) ?_
  refine al_op rfl rfl rfl (opP_or rfl (ev_tmp rfl) (ev_when rfl id)) ?_
  refine al_nil ?_
  refine aw_cond rfl (fun h1 => ?_) (fun h1 => ?_)
  · exfalso
    have e1 : (g.any fun l => decide ((l.length : Int) > 2)) = false := List.any_eq_false.2 fun l hl => by have := hg.two l hl; simp; omega
    simp [e1] at h1 <;> omega
  refine aw_skip ?_
  refine aw_seq ?_
  refine aw_seq ?_
  refine aw_region ?_
  refine al_op rfl rfl rfl (opP_load_pt rfl u47 rfl (ev_tmp rfl) rfl rfl) ?_
  refine al_op rfl rfl rfl (opP_len rfl u47 (ev_tmp rfl) (by first | exact lenA_ints | exact lenA_map | rfl)) ?_
  refine al_op rfl rfl rfl (opP_move rfl (ev_const rfl)) ?_
  refine al_nil ?_
  refine aw_block ?_
  refine aw_loop' (α := Nat) (fun i => [(1, .pt 101 0), (17, .dat none (.sl 1 (g.map rowD))), (18, .v (.int .i64 g.length)), (19, .v (.int .i64 i))]) (fun i => [(101, .var [.dat none (.sl 1 (g.map rowD))])]) (fun i => i ≤ g.length) (fun i => g.length - i) 0 (Nat.zero_le _) id (Fit.of ⟨rfl, trivial⟩ ⟨rfl, rfl, rfl, rfl, trivial⟩ rfl rfl) ?_
  rintro i hi
  refine aw_seq ?_
  refine aw_region ?_
  refine al_op rfl rfl rfl (opP_bin rfl (ev_tmp rfl) (ev_tmp rfl) rfl) ?_
  refine al_nil ?_
  refine aw_seq ?_
  refine aw_condS rfl (fun h2 => ?_) (fun h2 => ?_)
  · refine aw_exit ?_
    refine aw_seq ?_
    refine aw_region ?_
    refine al_op rfl rfl rfl (opP_assign rfl (ev_const rfl)) ?_
    refine al_nil ?_
    refine aw_ret ?_
    exact ret_id _ (.tmp rfl .nil) rfl trivial rfl rfl
  have hil : i < g.length := by simpa using h2
  refine aw_skip ?_
  refine aw_seq ?_
  refine aw_block ?_
  refine aw_seq ?_
  refine aw_region ?_
  refine al_op rfl rfl rfl (opP_index_dat rfl u47 s22 (ev_tmp rfl) (ev_tmp rfl) (fun _ => Int.natCast_nonneg _) (fun _ => rows_get hil)) ?_
  refine al_op rfl rfl rfl (opP_load_pr rfl u22 rfl (ev_tmp rfl)) ?_
  refine al_op rfl rfl rfl (opP_assign rfl (ev_tmp rfl)) ?_
  refine al_nil ?_
  refine aw_seq ?_
  refine aw_region ?_
  refine al_op rfl rfl rfl (opP_move rfl (ev_tmp rfl)) ?_
  refine al_op rfl rfl rfl (opP_makeFunc rfl (.cons (ev_tmp rfl) .nil)) ?_
  refine al_call id rfl rfl rfl (callOf_func rfl (.cons (ev_tmp rfl) (.cons (ev_tmp rfl) .nil))) (c156 233 [.prv [.dat none (.sl 1 (g.map rowD))]] g[i] (fun n => decide (n < 0) || decide (n ≥ g.length)) (hg.row _ (List.getElem_mem hil)) (fun _ => .cons (Vw.prvOf (.cons (.datn _) .nil)) .nil) (fun y _ => c233 g y)) (.cons (.datn _) (.cons (Vw.cloOf (.cons (Vw.ptOf rfl rfl rfl (.cons (.datn _) .nil)) .nil)) .nil)) (fun _ h => absurd h (by simp)) rfl rfl rfl (fun _ h => absurd h (by simp)) ?_
  refine al_nil ?_
  refine aw_cond rfl (fun h3 => ?_) (fun h3 => ?_)
  · exfalso
    obtain ⟨t, ht, h4⟩ := List.any_eq_true.1 h3
    have := hg.ok _ (List.getElem_mem hil) t ht
    simp at h4 <;> omega
  refine aw_skip ?_
  refine aw_region ?_
  refine al_op rfl rfl rfl (opP_bin rfl (ev_tmp rfl) (ev_const rfl) rfl) ?_
  refine al_op rfl rfl rfl (opP_move rfl (ev_tmp rfl)) ?_
  refine al_nil ?_
  refine ⟨i + 1, id, hil, by omega, Fit.of ⟨rfl, trivial⟩ ⟨rfl, rfl, rfl, by rw [← wrapS (by omega)]; rfl, trivial⟩ rfl rfl⟩
theorem e210 : Enters Tryz.prog 210 := enters_of Tryz.func210 (by kernel_rfl) (by kernel_rfl)
set_option maxRecDepth 100000 in
set_option maxHeartbeats 4000000 in
theorem c210 (g : List (List Int)) (l : List Int) (hg : GG g) (hll : l.length < 1000000) (hl : ∀ t ∈ l, 0 ≤ t ∧ t < g.length) : Ok Tryz.prog 210 [.dat none (.sl 1 (g.map rowD)), .dat none (.sl 1 (ints l))] [] (.v (.int .i64 0)) [] := by
  refine ok_of e210 Tryz.func210 rfl (by kernel_rfl) ?_
  intro cx hP hro hN hvk
  obtain ⟨P, ro, w0, Bin, N, R0, tk0, bl0, vk⟩ := cx
  subst hP hro hN
  have hvkd := vkd_of hvk
  refine aw_seq ?_
  refine aw_region ?_
  refine al_opc (k := 101) rfl rfl rfl ((hvk _).trans rfl) (opC_box rfl (ev_tmp rfl) rfl) ?_
  refine al_op rfl rfl rfl (opP_assign rfl (ev_const rfl)) ?_
  refine al_nil ?_
  refine aw_seq ?_
  refine aw_seq ?_
  refine aw_region ?_
  refine al_op rfl rfl rfl (opP_load_pt rfl u47 rfl (ev_tmp rfl) rfl rfl) ?_
  refine al_call (id) rfl rfl rfl (callOf_func rfl (.cons (ev_tmp rfl) .nil)) (c200 g hg) (by repeat' (first | refine Vw.stDOf ?_ | refine Vw.ptOf rfl rfl rfl ?_ | refine Vw.prvOf ?_ | refine Vw.cloOf ?_ | constructor)) (fun _ h => absurd h (by simp)) rfl rfl rfl (fun _ h => absurd h (by simp)) ?_
  refine al_op rfl rfl rfl (opP_assign rfl (ev_tmp rfl)) ?_
  refine al_nil ?_
  refine aw_seq ?_
  refine aw_region ?_
  refine al_op rfl rfl rfl (opP_move rfl (ev_tmp rfl)) ?_
  refine al_op rfl rfl rfl (opP_bin rfl (ev_tmp rfl) (ev_const rfl) rfl) ?_
  refine al_nil ?_
  refine aw_cond rfl (fun h1 => ?_) (fun h1 => ?_)
  · exfalso
    simp at h1
  refine aw_skip ?_
  refine aw_seq ?_
  refine aw_seq ?_
  refine aw_region ?_
  refine al_op rfl rfl rfl (opP_move rfl (ev_tmp rfl)) ?_
  refine al_op rfl rfl rfl (opP_makeFunc rfl (.cons (ev_tmp rfl) .nil)) ?_
  refine al_call id rfl rfl rfl (callOf_func rfl (.cons (ev_tmp rfl) (.cons (ev_tmp rfl) .nil))) (c156 238 [.prv [.dat none (.sl 1 (g.map rowD))]] l (fun n => decide (n < 0) || decide (n ≥ g.length)) hll (fun _ => .cons (Vw.prvOf (.cons (.datn _) .nil)) .nil) (fun y _ => c238 g y)) (.cons (.datn _) (.cons (Vw.cloOf (.cons (Vw.ptOf rfl rfl rfl (.cons (.datn _) .nil)) .nil)) .nil)) (fun _ h => absurd h (by simp)) rfl rfl rfl (fun _ h => absurd h (by simp)) ?_
  refine al_nil ?_
  refine aw_cond rfl (fun h2 => ?_) (fun h2 => ?_)
  · exfalso
    obtain ⟨t, ht, h4⟩ := List.any_eq_true.1 h2
    have := hl t ht
    simp at h4 <;> omega
  refine aw_skip ?_
  refine aw_seq ?_
  refine aw_region ?_
  refine al_op rfl rfl rfl (opP_assign rfl (ev_const rfl)) ?_
  refine al_nil ?_
  refine aw_ret ?_
  exact ret_id _ (.tmp rfl .nil) rfl trivial rfl rfl
end Go.AL
namespace Go.AL
def boolT (s : List Bool) : List A :=
  [.v (.bool (s.getD 0 false)), .v (.bool (s.getD 1 false)), .v (.bool (s.getD 2 false)), .v (.bool (s.getD 3 false)), .v (.bool (s.getD 4 false)), .v (.bool (s.getD 5 false)), .v (.bool (s.getD 6 false)),
    .v (.bool (s.getD 7 false)), .v (.bool (s.getD 8 false)), .v (.bool (s.getD 9 false))]
theorem boolT_get (s : List Bool) : ∀ {n : Nat}, n < 10 → (boolT s)[n]? = some (.v (.bool (s.getD n false)))
  | 0, _ | 1, _ | 2, _ | 3, _ | 4, _ | 5, _ | 6, _ | 7, _ | 8, _ | 9, _ => rfl
  | n + 10, h => by omega
theorem boolT_at (s : List Bool) {v : Int} (h0 : 0 ≤ v) (h1 : v < 10) : (boolT s)[0 + v.toNat * 1]? = some (.v (.bool (s.getD v.toNat false))) := by
  rw [Nat.zero_add, Nat.mul_one]; exact boolT_get s (by omega)
theorem boolT_drop (s : List Bool) : ∀ {n : Nat}, n < 10 → (boolT s).drop (n * 1) = .v (.bool (s.getD n false)) :: (boolT s).drop (n + 1)
  | 0, _ | 1, _ | 2, _ | 3, _ | 4, _ | 5, _ | 6, _ | 7, _ | 8, _ | 9, _ => rfl
  | n + 10, h => by omega
theorem getD_set {s : List Bool} {i j : Nat} {b : Bool} (hi : i < s.length) : (s.set i b).getD j false = if j = i then b else s.getD j false := by
  rw [List.getD_eq_getElem?_getD, List.getElem?_set, List.getD_eq_getElem?_getD]
  by_cases e : i = j
  · subst e; simp [hi]
  · rw [if_neg e, if_neg (Ne.symm e)]
theorem boolT_put {s : List Bool} (hs : s.length = 10) {n : Nat} (hn : n < 10) (b : Bool) : putC (boolT s) (0 + n * 1) [.v (.bool b)] = boolT (s.set n b) := by
  rw [Nat.zero_add, Nat.mul_one]
  have hn' : n < s.length := by omega
  match n, hn with
  | 0, _ | 1, _ | 2, _ | 3, _ | 4, _ | 5, _ | 6, _ | 7, _ | 8, _ | 9, _ => simp only [putC, boolT, getD_set hn', List.set_cons_zero, List.set_cons_succ]; simp
  | n + 10, h => omega
theorem unseen_ten : unseen (List.replicate 10 false) < 11 := by decide
end Go.AL
namespace Go.AL
open Go.Proofs
theorem u76 : Tryz.prog.underlying 76 = some Tryz.t76.desc := by kernel_rfl
theorem s76 : (Tryz.prog.info? 76).map (·.size) = some 1 := by kernel_rfl
theorem z76 : (Tryz.prog.info? 76).bind (·.zero) = Tryz.t76.zero := by kernel_rfl
theorem b76 : ((Tryz.prog.info? 76).map fun i => Nat.ble i.bytes 1000) = some true := by kernel_rfl
theorem u210 : Tryz.prog.underlying 210 = some Tryz.t209.desc := by kernel_rfl
theorem s210 : (Tryz.prog.info? 210).map (·.size) = some 10 := by kernel_rfl
theorem z210 : (Tryz.prog.info? 210).bind (·.zero) = Tryz.t210.zero := by kernel_rfl
theorem b210 : ((Tryz.prog.info? 210).map fun i => Nat.ble i.bytes 1000) = some true := by kernel_rfl
theorem e202 : Enters Tryz.prog 202 := enters_of Tryz.func202 (by kernel_rfl) (by kernel_rfl)
set_option maxRecDepth 100000 in
set_option maxHeartbeats 4000000 in
theorem c202 (s : List Bool) : Ok Tryz.prog 202 [.st (boolT s)] [] (.row 202001 1 0 (listI s).length) [(202001, .row 1 (ints (listI s)))] := by
  refine ok_of e202 Tryz.func202 rfl (by kernel_rfl) ?_
  intro cx hP hro hN hvk
  obtain ⟨P, ro, w0, Bin, N, R0, tk0, bl0, vk⟩ := cx
  subst hP hro hN
  have hvkd := vkd_of hvk
  refine aw_seq ?_
  refine aw_region ?_
  refine al_opc (k := 101) rfl rfl rfl ((hvk _).trans rfl) (opC_box rfl (ev_tmp rfl) rfl) ?_
  refine al_op rfl rfl rfl (opP_assign rfl (ev_const rfl)) ?_
  refine al_nil ?_
  refine aw_seq ?_
  refine aw_region ?_
  refine al_op rfl rfl rfl (opP_assign rfl (ev_const rfl)) ?_
  refine al_imp (imp_nilrow (k := 202001) (es := 1) (t := 3) ((hvk _).trans rfl) rfl) ?_
  refine al_nil ?_
  refine aw_seq ?_
  refine aw_seq ?_
  refine aw_region ?_
  refine al_op rfl rfl rfl (opP_load_ptn rfl u210 rfl s210 (ev_tmp rfl) rfl rfl) ?_
  refine al_op rfl rfl rfl (opP_move rfl (ev_const rfl)) ?_
  refine al_nil ?_
  refine aw_block ?_
  refine aw_loop' (α := Nat) (fun i => [(3, .row 202001 1 0 (listN s i).length), (6, .st (boolT s)), (7, .v (.int .i64 i))]) (fun i => [(202001, .row 1 (ints (listN s i)))]) (fun i => i ≤ 10) (fun i => 10 - i) 0 (Nat.zero_le _) id (Fit.of ⟨rfl, trivial⟩ ⟨rfl, rfl, rfl, trivial⟩ rfl rfl) ?_
  rintro i hi
  refine aw_seq ?_
  refine aw_region ?_
  refine al_op rfl rfl rfl (opP_bin rfl (ev_tmp rfl) (ev_const rfl) rfl) ?_
  refine al_nil ?_
  refine aw_seq ?_
  refine aw_condS rfl (fun h1 => ?_) (fun h1 => ?_)
  · refine aw_exit ?_
    refine aw_seq ?_
    refine aw_region ?_
    refine al_op rfl rfl rfl (opP_move rfl (ev_tmp rfl)) ?_
    refine al_op rfl rfl rfl (opP_assign rfl (ev_tmp rfl)) ?_
    refine al_nil ?_
    refine aw_ret ?_
    have e : i = 10 := by simp at h1; omega
    subst e
    exact ret_id _ (.tmp rfl .nil) rfl ⟨rfl, trivial⟩ rfl rfl
  have hil : i < 10 := by simp at h1; omega
  have hsucc := listN_succ s i
  have hle := listN_le s i
  refine aw_skip ?_
  refine aw_seq ?_
  refine aw_block ?_
  refine aw_seq ?_
  refine aw_region ?_
  refine al_op rfl rfl rfl (opP_move rfl (ev_tmp rfl)) ?_
  refine al_op rfl rfl rfl (opP_index_st rfl u210 s4 u4 rfl (ev_tmp rfl) (ev_tmp rfl) (fun _ => Int.natCast_nonneg _) (fun _ => by omega) (fun _ => boolT_get s hil)) ?_
  refine al_op rfl rfl rfl (opP_assign rfl (ev_tmp rfl)) ?_
  refine al_op rfl rfl rfl (opP_assign rfl (ev_tmp rfl)) ?_
  refine al_nil ?_
  refine aw_seq ?_
  refine aw_region ?_
  refine al_op rfl rfl rfl (opP_move rfl (ev_tmp rfl)) ?_
  refine al_nil ?_
  refine aw_condS rfl (fun h2 => ?_) (fun h2 => ?_)
  · refine aw_skip ?_
    refine aw_region ?_
    refine al_op rfl rfl rfl (opP_bin rfl (ev_tmp rfl) (ev_const rfl) rfl) ?_
    refine al_op rfl rfl rfl (opP_move rfl (ev_tmp rfl)) ?_
    refine al_nil ?_
    rw [if_neg (by rw [show s.getD i false = false from h2]; simp)] at hsucc
    refine ⟨i + 1, id, hil, by omega, Fit.of ⟨by rw [hsucc]; rfl, trivial⟩ ⟨by rw [hsucc]; rfl, rfl, by rw [← wrapS (by omega)]; rfl, trivial⟩ rfl rfl⟩
  refine aw_region ?_
  refine al_op rfl rfl rfl (opP_move rfl (ev_tmp rfl)) ?_
  refine al_op rfl rfl rfl (opP_move rfl (ev_tmp rfl)) ?_
  refine al_opc (k := 201) rfl rfl rfl ((hvk _).trans rfl) (opC_buildSlice (ds := [.int .i64 _]) rfl u22 s3 z3 rfl rfl (.cons (ev_tmp rfl) .nil) rfl rfl (.cons (.v _ rfl) .nil) rfl rfl rfl) ?_
  refine al_opc rfl rfl rfl ((hvk _).trans rfl) (opC_append rfl u22 s3 z3 rfl b3 (ev_tmp rfl) (ev_tmp rfl) (.row 202001 1 _ _ rfl (ints_len _).symm) (.row 201 1 _ _ rfl rfl) rfl rfl (by rw [ints_len]; simp; omega) rfl) ?_
  refine al_op rfl rfl rfl (opP_assign rfl (ev_tmp rfl)) ?_
  refine al_nil ?_
  refine aw_region ?_
  refine al_op rfl rfl rfl (opP_bin rfl (ev_tmp rfl) (ev_const rfl) rfl) ?_
  refine al_op rfl rfl rfl (opP_move rfl (ev_tmp rfl)) ?_
  refine al_nil ?_
  rw [if_pos (show s.getD i false = true from h2)] at hsucc
  refine ⟨i + 1, id, hil, by omega, Fit.of ⟨?_, trivial⟩ ⟨?_, rfl, by rw [← wrapS (by omega)]; rfl, trivial⟩ rfl rfl⟩
  · rw [hsucc, show ints (listN s i ++ [(i : Int)]) = ints (listN s i) ++ [.int .i64 i] by simp [ints]]; rfl
  · show A.row 202001 1 0 ((ints (listN s i)).length + 1) = _
    rw [hsucc, ints_len]; simp
theorem e211 : Enters Tryz.prog 211 := enters_of Tryz.func211 (by kernel_rfl) (by kernel_rfl)
set_option maxRecDepth 100000 in
set_option maxHeartbeats 4000000 in
theorem c211 (g : List (List Int)) (v : Int) (hg : GG g) : Ok Tryz.prog 211 [.dat none (.sl 1 (g.map rowD)), .v (.int .i64 v)] [] (.st (boolT (beforeB g v g.length))) [] := by
  refine ok_of e211 Tryz.func211 rfl (by kernel_rfl) ?_
  intro cx hP hro hN hvk
  obtain ⟨P, ro, w0, Bin, N, R0, tk0, bl0, vk⟩ := cx
  subst hP hro hN
  have hvkd := vkd_of hvk
  have h10 := hg.small
  refine aw_seq ?_
  refine aw_region ?_
  refine al_opc (k := 101) rfl rfl rfl ((hvk _).trans rfl) (opC_alloc rfl z210) ?_
  refine al_nil ?_
  refine aw_seq ?_
  refine aw_region ?_
  refine al_opc (k := 102) rfl rfl rfl ((hvk _).trans rfl) (opC_alloc rfl z210) ?_
  refine al_nil ?_
  refine aw_seq ?_
  refine aw_seq ?_
  refine aw_region ?_
  refine al_op rfl rfl rfl (opP_move rfl (ev_tmp rfl)) ?_
  refine al_op rfl rfl rfl (opP_len rfl u47 (ev_tmp rfl) (by first | exact lenA_ints | exact lenA_map | rfl)) ?_
  refine al_op rfl rfl rfl (opP_move rfl (ev_const rfl)) ?_
  refine al_nil ?_
  refine aw_block ?_
  refine aw_loop' (α := Nat) (fun i => [(1, .v (.int .i64 v)), (4, .pt 101 0), (5, .pt 102 0), (8, .dat none (.sl 1 (g.map rowD))), (9, .v (.int .i64 g.length)), (10, .v (.int .i64 i))]) (fun i => [(101, .var (boolT (List.replicate 10 false))), (102, .var (boolT (beforeB g v i)))]) (fun i => i ≤ g.length) (fun i => g.length - i) 0 (Nat.zero_le _) id (Fit.of ⟨rfl, rfl, trivial⟩ ⟨rfl, rfl, rfl, rfl, rfl, rfl, trivial⟩ rfl rfl) ?_
  rintro i hi
  refine aw_seq ?_
  refine aw_region ?_
  refine al_op rfl rfl rfl (opP_bin rfl (ev_tmp rfl) (ev_tmp rfl) rfl) ?_
  refine al_nil ?_
  refine aw_seq ?_
  refine aw_condS rfl (fun h1 => ?_) (fun h1 => ?_)
  · refine aw_exit ?_
    refine aw_seq ?_
    refine aw_region ?_
    refine al_op rfl rfl rfl (opP_load_ptn rfl u210 rfl s210 (ev_tmp rfl) rfl rfl) ?_
    refine al_store_pt rfl rfl rfl s210 (ev_tmp rfl) (ev_tmp rfl) rfl rfl rfl rfl rfl rfl ?_
    refine al_nil ?_
    refine aw_ret ?_
    have e : i = g.length := by simp at h1; omega
    subst e
    exact ret_id [.st (boolT (beforeB g v g.length))] (.celln' rfl u210 rfl s210 rfl rfl rfl .nil) rfl trivial rfl rfl
  have hil : i < g.length := by simpa using h1
  have hgd : g.getD i [] = g[i] := by simp [hil]
  refine aw_skip ?_
  refine aw_seq ?_
  refine aw_block ?_
  refine aw_seq ?_
  refine aw_region ?_
  refine al_op rfl rfl rfl (opP_move rfl (ev_tmp rfl)) ?_
  refine al_op rfl rfl rfl (opP_index_dat rfl u47 s22 (ev_tmp rfl) (ev_tmp rfl) (fun _ => Int.natCast_nonneg _) (fun _ => rows_get hil)) ?_
  refine al_op rfl rfl rfl (opP_load_pr rfl u22 rfl (ev_tmp rfl)) ?_
  refine al_op rfl rfl rfl (opP_assign rfl (ev_tmp rfl)) ?_
  refine al_op rfl rfl rfl (opP_assign rfl (ev_tmp rfl)) ?_
  refine al_nil ?_
  refine aw_region ?_
  refine al_op rfl rfl rfl (opP_move rfl (ev_tmp rfl)) ?_
  refine al_op rfl rfl rfl (opP_move rfl (ev_tmp rfl)) ?_
  refine al_op rfl rfl rfl (opP_move rfl (ev_tmp rfl)) ?_
  refine al_call (id) rfl rfl rfl (callOf_func rfl (.cons (ev_tmp rfl) (.cons (ev_tmp rfl) .nil))) (c171 g[i] v (hg.row _ (List.getElem_mem hil))) (by repeat' (first | refine Vw.stDOf ?_ | refine Vw.ptOf rfl rfl rfl ?_ | refine Vw.prvOf ?_ | refine Vw.cloOf ?_ | constructor)) (fun _ h => absurd h (by simp)) rfl rfl rfl (fun _ h => absurd h (by simp)) ?_
  refine al_op rfl rfl rfl (opP_index_arr rfl u210 s4 (ev_tmp rfl) (ev_tmp rfl) (fun _ => Int.natCast_nonneg _) (fun _ => by omega) rfl) ?_
  refine al_store_pt (cs' := boolT (beforeB g v (i + 1))) rfl rfl rfl s4 (ev_tmp rfl) (ev_tmp rfl) rfl rfl rfl rfl (by simp [boolT]; omega) (by rw [← beforeB_succ (by omega), hgd]; exact boolT_put beforeB_len (by omega) _) ?_
  refine al_nil ?_
  refine aw_region ?_
  refine al_op rfl rfl rfl (opP_bin rfl (ev_tmp rfl) (ev_const rfl) rfl) ?_
  refine al_op rfl rfl rfl (opP_move rfl (ev_tmp rfl)) ?_
  refine al_nil ?_
  refine ⟨i + 1, id, hil, by omega, Fit.of ⟨rfl, rfl, trivial⟩ ⟨rfl, rfl, rfl, rfl, rfl, by rw [← wrapS (by omega)]; rfl, trivial⟩ rfl rfl⟩
theorem e165 : Enters Tryz.prog 165 := enters_of Tryz.func165 (by kernel_rfl) (by kernel_rfl)
set_option maxRecDepth 100000 in
set_option maxHeartbeats 4000000 in
theorem c165 (g : List (List Int)) (v : Int) (hg : GG g) (h0 : 0 ≤ v) (h1 : v < g.length) : Ok Tryz.prog 165 [.dat none (.sl 1 (g.map rowD)), .v (.int .i64 v)] [] (.tup [.row 202001 1 0 (beforeR g v).length, .v (.int .i64 0)]) [(202001, .row 1 (ints (beforeR g v)))] := by
  refine ok_of e165 Tryz.func165 rfl (by kernel_rfl) ?_
  intro cx hP hro hN hvk
  obtain ⟨P, ro, w0, Bin, N, R0, tk0, bl0, vk⟩ := cx
  subst hP hro hN
  have hvkd := vkd_of hvk
  have hbl : listI (beforeB g v g.length) = beforeR g v := beforeB_list hg.small
  refine aw_seq ?_
  refine aw_region ?_
  refine al_op rfl rfl rfl (opP_assign rfl (ev_const rfl)) ?_
  refine al_op rfl rfl rfl (opP_assign rfl (ev_const rfl)) ?_
  refine al_nil ?_
  refine aw_seq ?_
  refine aw_seq ?_
  refine aw_region ?_
  refine al_op rfl rfl rfl (opP_move rfl (ev_tmp rfl)) ?_
  refine al_op rfl rfl rfl (opP_move rfl (ev_tmp rfl)) ?_
  refine al_opc (k := 201) rfl rfl rfl ((hvk _).trans rfl) (opC_buildSlice (ds := [.int .i64 _]) rfl u22 s3 z3 rfl rfl (.cons (ev_tmp rfl) .nil) rfl rfl (.cons (.v _ rfl) .nil) rfl rfl rfl) ?_
  refine al_call (id) rfl rfl rfl (callOf_func rfl (.cons (ev_tmp rfl) (.cons (ev_tmp rfl) .nil))) (c210 g [v] hg (by simp) (fun t ht => by simp at ht; subst ht; exact ⟨h0, h1⟩)) (.cons (.datn _) (.cons (Vw.row _ _ _ _ _ _ rfl rfl (by simp) rfl) .nil)) (fun _ h => absurd h (by simp)) rfl rfl rfl (fun _ h => absurd h (by simp)) ?_
  refine al_op rfl rfl rfl (opP_assign rfl (ev_tmp rfl)) ?_
  refine al_nil ?_
  refine aw_seq ?_
  refine aw_region ?_
  refine al_op rfl rfl rfl (opP_move rfl (ev_tmp rfl)) ?_
  refine al_op rfl rfl rfl (opP_bin rfl (ev_tmp rfl) (ev_const rfl) rfl) ?_
  refine al_nil ?_
  refine aw_cond rfl (fun h2 => ?_) (fun h2 => ?_)
  · exfalso
    simp at h2
  refine aw_skip ?_
  refine aw_seq ?_
  refine aw_region ?_
  refine al_op rfl rfl rfl (opP_move rfl (ev_tmp rfl)) ?_
  refine al_op rfl rfl rfl (opP_move rfl (ev_tmp rfl)) ?_
  refine al_call (id) rfl rfl rfl (callOf_func rfl (.cons (ev_tmp rfl) (.cons (ev_tmp rfl) .nil))) (c211 g v hg) (by repeat' (first | refine Vw.stDOf ?_ | refine Vw.ptOf rfl rfl rfl ?_ | refine Vw.prvOf ?_ | refine Vw.cloOf ?_ | constructor)) (fun _ h => absurd h (by simp)) rfl rfl rfl (fun _ h => absurd h (by simp)) ?_
  refine al_call (id) rfl rfl rfl (callOf_func rfl (.cons (ev_tmp rfl) .nil)) ((by have h := c202 (beforeB g v g.length); rw [hbl] at h; exact h)) (.cons (Vw.stOf (by repeat (first | exact .nil | refine .cons (.v _) ?_))) .nil) (fun _ h => absurd h (by simp)) rfl rfl rfl (fun p hp => .inr ((hvk _).trans (by simp at hp; subst hp; rfl))) ?_
  refine al_op rfl rfl rfl (opP_assign rfl (ev_tmp rfl)) ?_
  refine al_op rfl rfl rfl (opP_assign rfl (ev_const rfl)) ?_
  refine al_nil ?_
  refine aw_ret ?_
  exact ret_id _ (.tmp rfl (.tmp rfl .nil)) rfl ⟨rfl, trivial⟩ rfl rfl
theorem e234 : Enters Tryz.prog 234 := enters_of Tryz.func234 (by kernel_rfl) (by kernel_rfl)
set_option maxRecDepth 100000 in
set_option maxHeartbeats 4000000 in
theorem c234s (g : List (List Int)) (w : Int) (hg : GG g) (k : Nat) (ih : ∀ (v : Int) (s : List Bool), s.length = 10 → 0 ≤ v → v < g.length → unseen s < k → Ok Tryz.prog 234 [.v (.int .i64 v), .prv [.v (.int .i64 w)], .pt 234001 0, .prv [.dat none (.sl 1 (g.map rowD))], capV g w k] [(234001, .var (boolT s))] (.tup []) [(234001, .var (boolT (visitR k g w v s)))]) (v : Int) (s : List Bool) (hs : s.length = 10) (h0 : 0 ≤ v) (hv : v < g.length) (hu : unseen s < k + 1) : Ok Tryz.prog 234 [.v (.int .i64 v), .prv [.v (.int .i64 w)], .pt 234001 0, .prv [.dat none (.sl 1 (g.map rowD))], capV g w (k + 1)] [(234001, .var (boolT s))] (.tup []) [(234001, .var (boolT (visitR (k + 1) g w v s)))] := by
  refine ok_of e234 Tryz.func234 rfl (by kernel_rfl) ?_
  intro cx hP hro hN hvk
  obtain ⟨P, ro, w0, Bin, N, R0, tk0, bl0, vk⟩ := cx
  subst hP hro hN
  have hvkd := vkd_of hvk
  have h10 := hg.small
  have hvn : v.toNat < g.length := by omega
  have hvi : ((v.toNat : Nat) : Int) = v := by omega
  refine aw_seq ?_
  refine aw_seq ?_
  refine aw_region ?_
  refine al_op rfl rfl rfl (opP_move rfl (ev_tmp rfl)) ?_
  refine al_op rfl rfl rfl (opP_load_prv rfl u3 rfl (ev_tmp rfl)) ?_
  refine al_op rfl rfl rfl (opP_bin rfl (ev_tmp rfl) (ev_tmp rfl) rfl) ?_
  refine al_op rfl rfl rfl (opP_move rfl (ev_tmp rfl)) ?_
  refine al_opg rfl rfl rfl rfl rfl rfl (opP_move rfl (ev_tmp rfl)) ?_
  refine al_opg rfl rfl rfl rfl rfl rfl (opP_index_arr rfl u210 s4 (ev_tmp rfl) (ev_when rfl id) (fun _ => h0) (fun _ => by omega) rfl) ?_
  refine al_opg rfl rfl rfl rfl rfl rfl (opP_load_pt rfl u4 rfl (ev_when rfl id) rfl (boolT_at s h0 (by omega))) ?_
  refine al_op rfl rfl rfl (opP_or rfl (ev_tmp rfl) (ev_when rfl id)) ?_
  refine al_nil ?_
  refine aw_cond rfl (fun h1 => ?_) (fun h1 => ?_)
  · refine aw_ret ?_
    have e : visitR (k + 1) g w v s = s := by
      unfold visitR; rw [if_pos h1]
    rw [e]; exact ret_id [] .nil rfl ⟨rfl, trivial⟩ rfl rfl
  have hsv : s.getD v.toNat false = false := by simp only [Bool.or_eq_false_iff] at h1; exact h1.2
  have hu1 := unseen_set (show v.toNat < s.length by omega) hsv
  refine aw_skip ?_
  refine aw_seq ?_
  refine aw_region ?_
  refine al_op rfl rfl rfl (opP_move rfl (ev_tmp rfl)) ?_
  refine al_op rfl rfl rfl (opP_index_arr rfl u210 s4 (ev_tmp rfl) (ev_tmp rfl) (fun _ => h0) (fun _ => by omega) rfl) ?_
  refine al_store_pt (cs' := boolT (s.set v.toNat true)) rfl rfl rfl s4 (ev_tmp rfl) (ev_const rfl) rfl rfl rfl rfl (by simp [boolT]; omega) (boolT_put hs (by omega) _) ?_
  refine al_nil ?_
  refine aw_seq ?_
  refine aw_region ?_
  refine al_op rfl rfl rfl (opP_load_prv rfl u47 rfl (ev_tmp rfl)) ?_
  refine al_op rfl rfl rfl (opP_move rfl (ev_tmp rfl)) ?_
  refine al_op rfl rfl rfl (opP_index_dat rfl u47 s22 (ev_tmp rfl) (ev_tmp rfl) (fun _ => h0) (fun _ => rows_get hvn)) ?_
  refine al_op rfl rfl rfl (opP_load_pr rfl u22 rfl (ev_tmp rfl)) ?_
  refine al_op rfl rfl rfl (opP_len rfl u22 (ev_tmp rfl) (by first | exact lenA_ints | exact lenA_map | rfl)) ?_
  refine al_op rfl rfl rfl (opP_move rfl (ev_const rfl)) ?_
  refine al_nil ?_
  refine aw_block ?_
  refine aw_loop' (α := Nat) (fun i => [(0, .v (.int .i64 v)), (1, .prv [.v (.int .i64 w)]), (2, .pt 234001 0), (3, .prv [.dat none (.sl 1 (g.map rowD))]), (4, capV g w (k + 1)), (21, .dat none (rowD g[v.toNat])), (22, .v (.int .i64 g[v.toNat].length)), (23, .v (.int .i64 i))]) (fun i => [(234001, .var (boolT ((g[v.toNat].take i).foldl (fun s t => visitR k g w t s) (s.set v.toNat true))))]) (fun i => i ≤ g[v.toNat].length) (fun i => g[v.toNat].length - i) 0 (Nat.zero_le _) id (Fit.of ⟨rfl, trivial⟩ ⟨rfl, rfl, rfl, rfl, rfl, rfl, rfl, rfl, trivial⟩ rfl (by simp [A.within, withinL, keyIn, objL, capV_within])) ?_
  rintro i hi
  refine aw_seq ?_
  refine aw_region ?_
  refine al_op rfl rfl rfl (opP_bin rfl (ev_tmp rfl) (ev_tmp rfl) rfl) ?_
  refine al_nil ?_
  refine aw_seq ?_
  refine aw_condS rfl (fun h2 => ?_) (fun h2 => ?_)
  · refine aw_exit ?_
    have e : visitR (k + 1) g w v s = ((g[v.toNat].take i).foldl (fun s t => visitR k g w t s) (s.set v.toNat true)) := by
      have e0 : i = g[v.toNat].length := by simp at h2; omega
      rw [e0, List.take_length]
      conv => lhs; unfold visitR
      rw [if_neg (by rw [Bool.not_eq_true]; exact h1)]
      rw [show g.getD v.toNat [] = g[v.toNat] by simp [hvn]]
    rw [e]; exact end_id [] .nil rfl ⟨rfl, trivial⟩ rfl rfl
  have hil : i < g[v.toNat].length := by simpa using h2
  have hrl := hg.row _ (List.getElem_mem hvn)
  have hsucc : (g[v.toNat].take (i + 1)).foldl (fun s t => visitR k g w t s) (s.set v.toNat true) = visitR k g w g[v.toNat][i] ((g[v.toNat].take i).foldl (fun s t => visitR k g w t s) (s.set v.toNat true)) := by rw [List.take_succ_eq_append_getElem hil, List.foldl_append]; rfl
  have ht := hg.ok _ (List.getElem_mem hvn) _ (List.getElem_mem hil)
  have hlen : ((g[v.toNat].take i).foldl (fun s t => visitR k g w t s) (s.set v.toNat true)).length = 10 := by rw [foldV_len]; simp [hs]
  have hun : unseen ((g[v.toNat].take i).foldl (fun s t => visitR k g w t s) (s.set v.toNat true)) < k := by
    have := unseen_le (s := s.set v.toNat true) (s' := ((g[v.toNat].take i).foldl (fun s t => visitR k g w t s) (s.set v.toNat true))) (by rw [foldV_len]) (fun b hb => foldV_keep _ _ hb)
    omega
  refine aw_skip ?_
  refine aw_seq ?_
  refine aw_block ?_
  refine aw_seq ?_
  refine aw_region ?_
  refine al_op rfl rfl rfl (opP_index_dat rfl u22 s3 (ev_tmp rfl) (ev_tmp rfl) (fun _ => Int.natCast_nonneg _) (fun _ => ints_get hil)) ?_
  refine al_op rfl rfl rfl (opP_load_pr rfl u3 rfl (ev_tmp rfl)) ?_
  refine al_op rfl rfl rfl (opP_assign rfl (ev_tmp rfl)) ?_
  refine al_nil ?_
  refine aw_region ?_
  refine al_op rfl rfl rfl (opP_load_prv rfl u76 rfl (ev_tmp rfl)) ?_
  refine al_op rfl rfl rfl (opP_move rfl (ev_tmp rfl)) ?_
  refine al_call id rfl rfl rfl (callOf_clo rfl (ev_tmp rfl) (.cons (ev_tmp rfl) .nil)) (ih g[v.toNat][i] ((g[v.toNat].take i).foldl (fun s t => visitR k g w t s) (s.set v.toNat true)) hlen ht.1 ht.2 hun) (.cons (.v _) (.cons (Vw.prvOf (.cons (.v _) .nil)) (.cons (.ptL (ρ := id) 234001 0 rfl) (.cons (Vw.prvOf (.cons (.datn _) .nil)) (.cons (capV_vw rfl k) .nil))))) (fun p hp => by simp at hp; subst hp; exact Lend.varOf rfl (by repeat (first | exact .nil _ | refine .vw (.v _) ?_))) rfl rfl rfl (fun p hp => .inl (by simp at hp; subst hp; rfl)) ?_
  refine al_nil ?_
  refine aw_region ?_
  refine al_op rfl rfl rfl (opP_bin rfl (ev_tmp rfl) (ev_const rfl) rfl) ?_
  refine al_op rfl rfl rfl (opP_move rfl (ev_tmp rfl)) ?_
  refine al_nil ?_
  refine ⟨i + 1, id, hil, by omega, Fit.of ⟨by rw [hsucc]; rfl, trivial⟩ ⟨rfl, rfl, rfl, rfl, capV_kill rfl (k + 1), rfl, rfl, by rw [← wrapS (by omega)]; rfl, trivial⟩ rfl (by simp [A.within, withinL, keyIn, objL, capV_within])⟩
theorem c234 (g : List (List Int)) (w : Int) (hg : GG g) : ∀ (k : Nat) (v : Int) (s : List Bool), s.length = 10 → 0 ≤ v → v < g.length → unseen s < k → Ok Tryz.prog 234 [.v (.int .i64 v), .prv [.v (.int .i64 w)], .pt 234001 0, .prv [.dat none (.sl 1 (g.map rowD))], capV g w k] [(234001, .var (boolT s))] (.tup []) [(234001, .var (boolT (visitR k g w v s)))]
  | 0, _, _, _, _, _, h => absurd h (Nat.not_lt_zero _)
  | k + 1, v, s, hs, h0, hv, hu => c234s g w hg k (c234 g w hg k) v s hs h0 hv hu
end Go.AL
namespace Go.AL
theorem reachI_eq {g : List (List Int)} (hg : GG g) (w : Int) (b : Nat) : (reachI g w).getD b false = (reachedR g w).getD b false := by
  have h1 := visit_way (g := g) (w := w) (n := 10) ⟨fun l hl t ht => by have := hg.ok l hl t ht; have := hg.small; omega⟩ (by omega) b
  have h2 := reached_way (w := w) hg.toGOk b
  rw [Bool.eq_iff_iff]
  exact h1.trans h2.symm
def domE (g : List (List Int)) (a b : Int) : Bool := [a, b].any fun t => !((reachI g (-1)).getD t.toNat false)
theorem hasR_list {s : List Bool} {b : Nat} (hb : b < 10) : hasR (listI s) b = s.getD b false := by
  unfold hasR listI listN
  rw [Bool.eq_iff_iff]
  simp only [List.any_map, List.any_eq_true, List.mem_filter, List.mem_range, Function.comp]
  constructor
  · rintro ⟨x, ⟨_, h1⟩, h2⟩
    have h3 : (x : Int) = b := by simpa using h2
    have : x = b := by omega
    rw [← this]; exact h1
  · intro h
    exact ⟨b, ⟨hb, h⟩, by simp⟩
end Go.AL
namespace Go.AL
open Go.Proofs
theorem e201 : Enters Tryz.prog 201 := enters_of Tryz.func201 (by kernel_rfl) (by kernel_rfl)
set_option maxRecDepth 100000 in
set_option maxHeartbeats 4000000 in
theorem c201 (g : List (List Int)) (w : Int) (hg : GG g) : Ok Tryz.prog 201 [.dat none (.sl 1 (g.map rowD)), .v (.int .i64 w)] [] (.st (boolT (reachI g w))) [] := by
  refine ok_of e201 Tryz.func201 rfl (by kernel_rfl) ?_
  intro cx hP hro hN hvk
  obtain ⟨P, ro, w0, Bin, N, R0, tk0, bl0, vk⟩ := cx
  subst hP hro hN
  have hvkd := vkd_of hvk
  refine aw_seq ?_
  refine aw_region ?_
  refine al_opc (k := 101) rfl rfl rfl ((hvk _).trans rfl) (opC_box rfl (ev_tmp rfl) rfl) ?_
  refine al_opc (k := 102) rfl rfl rfl ((hvk _).trans rfl) (opC_box rfl (ev_tmp rfl) rfl) ?_
  refine al_opc (k := 103) rfl rfl rfl ((hvk _).trans rfl) (opC_alloc rfl z210) ?_
  refine al_nil ?_
  refine aw_seq ?_
  refine aw_region ?_
  refine al_opc (k := 104) rfl rfl rfl ((hvk _).trans rfl) (opC_alloc rfl z210) ?_
  refine al_nil ?_
  refine aw_seq ?_
  refine aw_region ?_
  refine al_opc (k := 105) rfl rfl rfl ((hvk _).trans rfl) (opC_alloc rfl z76) ?_
  refine al_nil ?_
  refine aw_seq ?_
  refine aw_region ?_
  refine al_op rfl rfl rfl (opP_makeFunc rfl (.cons (ev_tmp rfl) (.cons (ev_tmp rfl) (.cons (ev_tmp rfl) (.cons (ev_tmp rfl) .nil))))) ?_
  refine al_store_pt rfl rfl rfl s76 (ev_tmp rfl) (ev_tmp rfl) rfl rfl rfl rfl rfl rfl ?_
  refine al_nil ?_
  refine aw_seq ?_
  refine aw_region ?_
  refine al_op rfl rfl rfl (opP_load_pt rfl u76 rfl (ev_tmp rfl) rfl rfl) ?_
  refine al_call (fun _ => 104) rfl rfl rfl (callOf_clo rfl (ev_tmp rfl) (.cons (ev_const rfl) .nil)) (c234 g w hg 11 0 (List.replicate 10 false) (by simp) (by omega) (by have := hg.pos; omega) unseen_ten) (.cons (.v _) (.cons (Vw.ptOf rfl rfl rfl (.cons (.v _) .nil)) (.cons (.ptL (ρ := fun _ => 104) 234001 0 rfl) (.cons (Vw.ptOf rfl rfl rfl (.cons (.datn _) .nil)) (.cons (capV_of (kb := 102) (kg := 101) rfl rfl rfl rfl rfl rfl rfl rfl 11) .nil))))) (fun p hp => by simp at hp; subst hp; exact Lend.varOf rfl (by repeat (first | exact .nil _ | refine .vw (.v _) ?_))) rfl rfl rfl (fun p hp => .inl (by simp at hp; subst hp; rfl)) ?_
  refine al_nil ?_
  refine aw_seq ?_
  refine aw_region ?_
  refine al_op rfl rfl rfl (opP_load_ptn rfl u210 rfl s210 (ev_tmp rfl) rfl rfl) ?_
  refine al_store_pt rfl rfl rfl s210 (ev_tmp rfl) (ev_tmp rfl) rfl rfl rfl rfl rfl rfl ?_
  refine al_nil ?_
  refine aw_ret ?_
  exact ret_id [.st (boolT (reachI g w))] (.celln' rfl u210 rfl s210 rfl rfl rfl .nil) rfl trivial rfl rfl
theorem e265 : Enters Tryz.prog 265 := enters_of Tryz.func265 (by kernel_rfl) (by kernel_rfl)
set_option maxRecDepth 100000 in
set_option maxHeartbeats 4000000 in
theorem c265 (s : List Bool) (n : Int) (h0 : 0 ≤ n) (h1 : n < 10) : Ok Tryz.prog 265 [.v (.int .i64 n), .prv (boolT s)] [] (.v (.bool (!(s.getD n.toNat false)))) [] := by
  refine ok_of e265 Tryz.func265 rfl (by kernel_rfl) ?_
  intro cx hP hro hN hvk
  obtain ⟨P, ro, w0, Bin, N, R0, tk0, bl0, vk⟩ := cx
  subst hP hro hN
  have hvkd := vkd_of hvk
  refine aw_seq ?_
  refine aw_region ?_
  refine al_op rfl rfl rfl (opP_assign rfl (ev_const rfl)) ?_
  refine al_nil ?_
  refine aw_seq ?_
  refine aw_region ?_
  refine al_op rfl rfl rfl (opP_move rfl (ev_tmp rfl)) ?_
  refine al_op rfl rfl rfl (opP_index_arr (r := .prv (.v (.bool (s.getD n.toNat false)) :: (boolT s).drop (n.toNat + 1))) rfl u210 s4 (ev_tmp rfl) (ev_tmp rfl) (fun _ => h0) (fun _ => h1) (by show (if n.toNat * 1 < 10 then some (A.prv ((boolT s).drop (n.toNat * 1))) else none) = _; rw [if_pos (by omega), boolT_drop s (by omega)])) ?_
  refine al_op rfl rfl rfl (opP_load_prv rfl u4 rfl (ev_tmp rfl)) ?_
  refine al_op rfl rfl rfl (opP_not rfl (ev_tmp rfl)) ?_
  refine al_op rfl rfl rfl (opP_assign rfl (ev_tmp rfl)) ?_
  refine al_nil ?_
  refine aw_ret ?_
  exact ret_id _ (.tmp rfl .nil) rfl trivial rfl rfl
theorem e239 : Enters Tryz.prog 239 := enters_of Tryz.func239 (by kernel_rfl) (by kernel_rfl)
set_option maxRecDepth 100000 in
set_option maxHeartbeats 4000000 in
theorem c239 (g : List (List Int)) (l : List Int) (hg : GG g) (hll : l.length < 1000000) (hl : ∀ t ∈ l, 0 ≤ t ∧ t < g.length) : Ok Tryz.prog 239 [.dat none (.sl 1 (g.map rowD)), .dat none (.sl 1 (ints l))] [] (.v (.int .i64 (if l.any (fun t => !((reachI g (-1)).getD t.toNat false)) then 9 else 0))) [] := by
  refine ok_of e239 Tryz.func239 rfl (by kernel_rfl) ?_
  intro cx hP hro hN hvk
  obtain ⟨P, ro, w0, Bin, N, R0, tk0, bl0, vk⟩ := cx
  subst hP hro hN
  have hvkd := vkd_of hvk
  refine aw_seq ?_
  refine aw_region ?_
  refine al_op rfl rfl rfl (opP_assign rfl (ev_const rfl)) ?_
  refine al_nil ?_
  refine aw_seq ?_
  refine aw_seq ?_
  refine aw_region ?_
  refine al_op rfl rfl rfl (opP_move rfl (ev_tmp rfl)) ?_
  refine al_op rfl rfl rfl (opP_move rfl (ev_tmp rfl)) ?_
  refine al_call (id) rfl rfl rfl (callOf_func rfl (.cons (ev_tmp rfl) (.cons (ev_tmp rfl) .nil))) (c210 g l hg hll hl) (by repeat' (first | refine Vw.stDOf ?_ | refine Vw.ptOf rfl rfl rfl ?_ | refine Vw.prvOf ?_ | refine Vw.cloOf ?_ | constructor)) (fun _ h => absurd h (by simp)) rfl rfl rfl (fun _ h => absurd h (by simp)) ?_
  refine al_op rfl rfl rfl (opP_assign rfl (ev_tmp rfl)) ?_
  refine al_nil ?_
  refine aw_seq ?_
  refine aw_region ?_
  refine al_op rfl rfl rfl (opP_move rfl (ev_tmp rfl)) ?_
  refine al_op rfl rfl rfl (opP_bin rfl (ev_tmp rfl) (ev_const rfl) rfl) ?_
  refine al_nil ?_
  refine aw_cond rfl (fun h1 => ?_) (fun h1 => ?_)
  · exfalso
    simp at h1
  refine aw_skip ?_
  refine aw_seq ?_
  refine aw_region ?_
  refine al_op rfl rfl rfl (opP_move rfl (ev_tmp rfl)) ?_
  refine al_call (id) rfl rfl rfl (callOf_func rfl (.cons (ev_tmp rfl) (.cons (ev_const rfl) .nil))) (c201 g (-1) hg) (by repeat' (first | refine Vw.stDOf ?_ | refine Vw.ptOf rfl rfl rfl ?_ | refine Vw.prvOf ?_ | refine Vw.cloOf ?_ | constructor)) (fun _ h => absurd h (by simp)) rfl rfl rfl (fun _ h => absurd h (by simp)) ?_
  refine al_opc (k := 101) rfl rfl rfl ((hvk _).trans rfl) (opC_alloc rfl z210) ?_
  refine al_store_pt rfl rfl rfl s210 (ev_tmp rfl) (ev_tmp rfl) rfl rfl rfl rfl rfl rfl ?_
  refine al_nil ?_
  refine aw_seq ?_
  refine aw_seq ?_
  refine aw_region ?_
  refine al_op rfl rfl rfl (opP_move rfl (ev_tmp rfl)) ?_
  refine al_op rfl rfl rfl (opP_makeFunc rfl (.cons (ev_tmp rfl) .nil)) ?_
  refine al_call id rfl rfl rfl (callOf_func rfl (.cons (ev_tmp rfl) (.cons (ev_tmp rfl) .nil))) (c156 265 [.prv (boolT (reachI g (-1)))] l (fun t => !((reachI g (-1)).getD t.toNat false)) hll (fun _ => .cons (Vw.prvOf (by repeat (first | exact .nil | refine .cons (.v _) ?_))) .nil) (fun y hy => c265 _ y (hl y hy).1 (by have := (hl y hy).2; have := hg.small; omega))) (.cons (.datn _) (.cons (Vw.cloOf (.cons (Vw.ptOf rfl rfl rfl (by repeat (first | exact .nil | refine .cons (.v _) ?_))) .nil)) .nil)) (fun _ h => absurd h (by simp)) rfl rfl rfl (fun _ h => absurd h (by simp)) ?_
  refine al_nil ?_
  refine aw_cond rfl (fun h2 => ?_) (fun h2 => ?_)
  · refine aw_seq ?_
    refine aw_region ?_
    refine al_op rfl rfl rfl (opP_assign rfl (ev_const rfl)) ?_
    refine al_nil ?_
    refine aw_ret ?_
    rw [if_pos h2]; exact ret_id _ (.tmp rfl .nil) rfl trivial rfl rfl
  refine aw_skip ?_
  refine aw_seq ?_
  refine aw_region ?_
  refine al_op rfl rfl rfl (opP_assign rfl (ev_const rfl)) ?_
  refine al_nil ?_
  refine aw_ret ?_
  rw [if_neg (by rw [h2]; simp)]; exact ret_id _ (.tmp rfl .nil) rfl trivial rfl rfl
theorem e240 : Enters Tryz.prog 240 := enters_of Tryz.func240 (by kernel_rfl) (by kernel_rfl)
set_option maxRecDepth 100000 in
set_option maxHeartbeats 4000000 in
theorem c240 (g : List (List Int)) (a b : Int) (hg : GG g) (h0 : 0 ≤ b) (h1 : b < g.length) : Ok Tryz.prog 240 [.dat none (.sl 1 (g.map rowD)), .v (.int .i64 a), .v (.int .i64 b)] [] (.v (.bool (dominatesR g a b))) [] := by
  refine ok_of e240 Tryz.func240 rfl (by kernel_rfl) ?_
  intro cx hP hro hN hvk
  obtain ⟨P, ro, w0, Bin, N, R0, tk0, bl0, vk⟩ := cx
  subst hP hro hN
  have hvkd := vkd_of hvk
  have h10 := hg.small
  have er : (reachI g a).getD b.toNat false = (reachedR g a).getD b.toNat false := reachI_eq hg a _
  refine aw_seq ?_
  refine aw_region ?_
  refine al_op rfl rfl rfl (opP_assign rfl (ev_const rfl)) ?_
  refine al_nil ?_
  refine aw_seq ?_
  refine aw_region ?_
  refine al_op rfl rfl rfl (opP_move rfl (ev_tmp rfl)) ?_
  refine al_op rfl rfl rfl (opP_move rfl (ev_tmp rfl)) ?_
  refine al_op rfl rfl rfl (opP_bin rfl (ev_tmp rfl) (ev_tmp rfl) rfl) ?_
  refine al_op rfl rfl rfl (opP_move rfl (ev_tmp rfl)) ?_
  refine al_opg rfl rfl rfl rfl rfl rfl (opP_move rfl (ev_tmp rfl)) ?_
  refine al_opg rfl rfl rfl rfl rfl rfl (opP_move rfl (ev_tmp rfl)) ?_
  refine al_stepD rfl rfl (stepD_callg (r := .st (boolT (reachI g a))) rfl rfl rfl rfl (callOf_func rfl (.cons (ev_when rfl id) (.cons (ev_when rfl id) .nil))) (fun gd => c201 g a hg) (fun gd => (by repeat' (first | refine Vw.stDOf ?_ | refine Vw.ptOf rfl rfl rfl ?_ | refine Vw.prvOf ?_ | refine Vw.cloOf ?_ | constructor))) rfl (fun _ => rfl)) ?_
  refine al_opg rfl rfl rfl rfl rfl rfl (opP_move rfl (ev_tmp rfl)) ?_
  refine al_opg rfl rfl rfl rfl rfl rfl (opP_index_st rfl u210 s4 u4 rfl (ev_when rfl id) (ev_when rfl id) (fun _ => h0) (fun _ => by omega) (fun _ => boolT_get (reachI g a) (n := b.toNat) (by omega))) ?_
  refine al_opg rfl rfl rfl rfl rfl rfl (opP_not rfl (ev_when rfl id)) ?_
  refine al_op rfl rfl rfl (opP_or rfl (ev_tmp rfl) (ev_when rfl id)) ?_
  refine al_op rfl rfl rfl (opP_assign rfl (ev_tmp rfl)) ?_
  refine al_nil ?_
  refine aw_ret ?_
  exact ret_id ([.v (.bool _)]) (.tmp rfl .nil) (congrArg (fun x => A.v (.bool x)) (by unfold dominatesR; rw [er])) (by first | exact trivial | exact ⟨rfl, trivial⟩ | exact ⟨rfl, rfl, trivial⟩ | exact ⟨rfl, rfl, rfl, trivial⟩ | exact ⟨rfl, rfl, rfl, rfl, trivial⟩) rfl rfl
theorem e212 : Enters Tryz.prog 212 := enters_of Tryz.func212 (by kernel_rfl) (by kernel_rfl)
set_option maxRecDepth 100000 in
set_option maxHeartbeats 4000000 in
theorem c212 (g : List (List Int)) (a b : Int) (hg : GG g) (ha : 0 ≤ a ∧ a < g.length) (hb : 0 ≤ b ∧ b < g.length) : Ok Tryz.prog 212 [.dat none (.sl 1 (g.map rowD)), .v (.int .i64 a), .v (.int .i64 b)] [] (.tup [.v (.bool (!(domE g a b) && dominatesR g a b)), .v (.int .i64 (if domE g a b then 9 else 0))]) [] := by
  refine ok_of e212 Tryz.func212 rfl (by kernel_rfl) ?_
  intro cx hP hro hN hvk
  obtain ⟨P, ro, w0, Bin, N, R0, tk0, bl0, vk⟩ := cx
  subst hP hro hN
  have hvkd := vkd_of hvk
  have hab : ∀ t ∈ [a, b], 0 ≤ t ∧ t < g.length := by
    intro t ht
    rcases List.mem_cons.1 ht with e | ht
    · rw [e]; exact ha
    · rw [List.mem_singleton.1 ht]; exact hb
  refine aw_seq ?_
  refine aw_region ?_
  refine al_op rfl rfl rfl (opP_assign rfl (ev_const rfl)) ?_
  refine al_op rfl rfl rfl (opP_assign rfl (ev_const rfl)) ?_
  refine al_nil ?_
  refine aw_seq ?_
  refine aw_seq ?_
  refine aw_region ?_
  refine al_op rfl rfl rfl (opP_move rfl (ev_tmp rfl)) ?_
  refine al_op rfl rfl rfl (opP_move rfl (ev_tmp rfl)) ?_
  refine al_op rfl rfl rfl (opP_move rfl (ev_tmp rfl)) ?_
  refine al_opc (k := 201) rfl rfl rfl ((hvk _).trans rfl) (opC_buildSlice (ds := [.int .i64 _, .int .i64 _]) rfl u22 s3 z3 rfl rfl (.cons (ev_tmp rfl) (.cons (ev_tmp rfl) .nil)) rfl rfl (.cons (.v _ rfl) (.cons (.v _ rfl) .nil)) rfl rfl rfl) ?_
  refine al_call (id) rfl rfl rfl (callOf_func rfl (.cons (ev_tmp rfl) (.cons (ev_tmp rfl) .nil))) (c239 g [a, b] hg (by simp) hab) (.cons (.datn _) (.cons (Vw.row _ _ _ _ _ _ rfl rfl (by simp) rfl) .nil)) (fun _ h => absurd h (by simp)) rfl rfl rfl (fun _ h => absurd h (by simp)) ?_
  refine al_op rfl rfl rfl (opP_assign rfl (ev_tmp rfl)) ?_
  refine al_nil ?_
  refine aw_seq ?_
  refine aw_region ?_
  refine al_op rfl rfl rfl (opP_move rfl (ev_tmp rfl)) ?_
  refine al_op rfl rfl rfl (opP_bin rfl (ev_tmp rfl) (ev_const rfl) rfl) ?_
  refine al_nil ?_
  refine aw_cond rfl (fun h1 => ?_) (fun h1 => ?_)
  · have e : domE g a b = true := by
      cases he : domE g a b with
      | true => rfl
      | false => rw [show ([a, b].any fun t => !((reachI g (-1)).getD t.toNat false)) = false from he] at h1; simp at h1
    refine aw_seq ?_
    refine aw_region ?_
    refine al_op rfl rfl rfl (opP_move rfl (ev_tmp rfl)) ?_
    refine al_op rfl rfl rfl (opP_assign rfl (ev_const rfl)) ?_
    refine al_op rfl rfl rfl (opP_assign rfl (ev_tmp rfl)) ?_
    refine al_nil ?_
    refine aw_ret ?_
    rw [e]; exact ret_id _ (.tmp rfl (.tmp rfl .nil)) (by show A.tup [_, .v (.int .i64 (if domE g a b then 9 else 0))] = _; rw [e]; rfl) trivial rfl rfl
  have e : domE g a b = false := by
    cases he : domE g a b with
    | false => rfl
    | true => rw [show ([a, b].any fun t => !((reachI g (-1)).getD t.toNat false)) = true from he] at h1; simp at h1
  refine aw_skip ?_
  refine aw_seq ?_
  refine aw_region ?_
  refine al_op rfl rfl rfl (opP_move rfl (ev_tmp rfl)) ?_
  refine al_op rfl rfl rfl (opP_move rfl (ev_tmp rfl)) ?_
  refine al_op rfl rfl rfl (opP_move rfl (ev_tmp rfl)) ?_
  refine al_call (id) rfl rfl rfl (callOf_func rfl (.cons (ev_tmp rfl) (.cons (ev_tmp rfl) (.cons (ev_tmp rfl) .nil)))) (c240 g a b hg hb.1 hb.2) (by repeat' (first | refine Vw.stDOf ?_ | refine Vw.ptOf rfl rfl rfl ?_ | refine Vw.prvOf ?_ | refine Vw.cloOf ?_ | constructor)) (fun _ h => absurd h (by simp)) rfl rfl rfl (fun _ h => absurd h (by simp)) ?_
  refine al_op rfl rfl rfl (opP_assign rfl (ev_tmp rfl)) ?_
  refine al_op rfl rfl rfl (opP_assign rfl (ev_const rfl)) ?_
  refine al_nil ?_
  refine aw_ret ?_
  rw [e]; exact ret_id _ (.tmp rfl (.tmp rfl .nil)) rfl trivial rfl rfl
theorem e137 : Enters Tryz.prog 137 := enters_of Tryz.func137 (by kernel_rfl) (by kernel_rfl)
set_option maxRecDepth 100000 in
set_option maxHeartbeats 4000000 in
theorem c137 (g : List (List Int)) (hg : GG g) : Ok Tryz.prog 137 [.dat none (.sl 1 (g.map rowD))] [] (.tup [.row 202001 1 0 (listI (reachI g (-1))).length, .v (.int .i64 0)]) [(202001, .row 1 (ints (listI (reachI g (-1)))))] := by
  refine ok_of e137 Tryz.func137 rfl (by kernel_rfl) ?_
  intro cx hP hro hN hvk
  obtain ⟨P, ro, w0, Bin, N, R0, tk0, bl0, vk⟩ := cx
  subst hP hro hN
  have hvkd := vkd_of hvk
  refine aw_seq ?_
  refine aw_region ?_
  refine al_op rfl rfl rfl (opP_assign rfl (ev_const rfl)) ?_
  refine al_op rfl rfl rfl (opP_assign rfl (ev_const rfl)) ?_
  refine al_nil ?_
  refine aw_seq ?_
  refine aw_seq ?_
  refine aw_region ?_
  refine al_op rfl rfl rfl (opP_move rfl (ev_tmp rfl)) ?_
  refine al_call (id) rfl rfl rfl (callOf_func rfl (.cons (ev_tmp rfl) .nil)) (c200 g hg) (by repeat' (first | refine Vw.stDOf ?_ | refine Vw.ptOf rfl rfl rfl ?_ | refine Vw.prvOf ?_ | refine Vw.cloOf ?_ | constructor)) (fun _ h => absurd h (by simp)) rfl rfl rfl (fun _ h => absurd h (by simp)) ?_
  refine al_op rfl rfl rfl (opP_assign rfl (ev_tmp rfl)) ?_
  refine al_nil ?_
  refine aw_seq ?_
  refine aw_region ?_
  refine al_op rfl rfl rfl (opP_move rfl (ev_tmp rfl)) ?_
  refine al_op rfl rfl rfl (opP_bin rfl (ev_tmp rfl) (ev_const rfl) rfl) ?_
  refine al_nil ?_
  refine aw_cond rfl (fun h1 => ?_) (fun h1 => ?_)
  · exfalso
    simp at h1
  refine aw_skip ?_
  refine aw_seq ?_
  refine aw_region ?_
  refine al_op rfl rfl rfl (opP_move rfl (ev_tmp rfl)) ?_
  refine al_call (id) rfl rfl rfl (callOf_func rfl (.cons (ev_tmp rfl) (.cons (ev_const rfl) .nil))) (c201 g (-1) hg) (by repeat' (first | refine Vw.stDOf ?_ | refine Vw.ptOf rfl rfl rfl ?_ | refine Vw.prvOf ?_ | refine Vw.cloOf ?_ | constructor)) (fun _ h => absurd h (by simp)) rfl rfl rfl (fun _ h => absurd h (by simp)) ?_
  refine al_call (id) rfl rfl rfl (callOf_func rfl (.cons (ev_tmp rfl) .nil)) (c202 (reachI g (-1))) (.cons (Vw.stOf (by repeat (first | exact .nil | refine .cons (.v _) ?_))) .nil) (fun _ h => absurd h (by simp)) rfl rfl rfl (fun p hp => .inr ((hvk _).trans (by simp at hp; subst hp; rfl))) ?_
  refine al_op rfl rfl rfl (opP_assign rfl (ev_tmp rfl)) ?_
  refine al_op rfl rfl rfl (opP_assign rfl (ev_const rfl)) ?_
  refine al_nil ?_
  refine aw_ret ?_
  exact ret_id _ (.tmp rfl (.tmp rfl .nil)) rfl ⟨rfl, trivial⟩ rfl rfl
end Go.AL
namespace Go.AL
theorem placed_insts (f : Fn) : (placed f).map (·.1) = f.blocks.flatten := by
  unfold placed
  have : ∀ (bs : List (List Inst)) (k : Nat), (((bs.zipIdx k).flatMap fun p => p.1.zipIdx.map fun q => (q.1, p.2, q.2)).map (·.1)) = bs.flatten := by
    intro bs
    induction bs with
    | nil => exact fun _ => rfl
    | cons l bs ih =>
      intro k
      simp only [List.zipIdx_cons, List.flatMap_cons, List.map_append, List.flatten_cons, ih]
      congr 1
      rw [List.map_map]
      exact List.zipIdx_map_fst 0 l
  exact this _ 0
def kindsN (f : Fn) (n : Nat) : List Int := f.params ++ ((placed f).take n).map (·.1.w)
theorem kindsN_len {f : Fn} {n : Nat} (hn : n ≤ (placed f).length) : (kindsN f n).length = f.params.length + n := by
  rw [kindsN, List.length_append, List.length_map, List.length_take, Nat.min_eq_left hn]
theorem kindsN_succ {f : Fn} {n : Nat} {x : Inst} {b i : Nat} (h : (placed f)[n]? = some (x, b, i)) : kindsN f (n + 1) = kindsN f n ++ [x.w] := by
  obtain ⟨hn, e⟩ := List.getElem?_eq_some_iff.1 h
  rw [kindsN, kindsN, List.take_succ_eq_append_getElem hn, List.map_append, List.append_assoc]
  simp [e]
theorem kindsN_all {f : Fn} {n : Nat} (hn : (placed f).length ≤ n) : kindsN f n = kindsR f := by
  rw [kindsN, kindsR, List.take_of_length_le hn, ← placed_insts, List.map_map]; rfl
theorem Fn.Fits.placed {f : Fn} (h : f.Fits) : (Go.AL.placed f).length ≤ 1000000000000 := by rw [placed_len]; exact h.total
def eachI (f : Fn) (x : Inst) (k : Int) : Bool := x.args.all fun v => kindR f v == k
def ofI (f : Fn) (x : Inst) (i : Nat) : Int := kindR f (x.args.getD i 0)
def typedI (f : Fn) (x : Inst) : Bool :=
  let c := classR x.op
  if c == 2 || c == 7 || c == 8 || c == 14 then eachI f x x.w
  else if c == 3 then isW (ofI f x 0) && eachI f x (ofI f x 0)
  else if c == 4 then ofI f x 0 == 1 && ofI f x 1 == x.w && ofI f x 2 == x.w
  else if c == 5 then isW (ofI f x 0) && decide (ofI f x 0 < x.w)
  else if c == 6 then isW (ofI f x 0) && decide (ofI f x 0 > x.w)
  else if c == 11 then ofI f x 0 == 33 && isW (ofI f x 1)
  else if c == 12 then ofI f x 0 == 33
  else if c == 13 then ofI f x 0 == 33 && memR (ofI f x 1)
  else if c == 16 then ofI f x 0 == 1
  else if c == 17 then eachI f x f.ret
  else true
theorem shaped_args {f : Fn} {x : Inst} (h : shapedI f x = true) : (x.args.length : Int) = (shapeI f x).1 ∧ (x.to.length : Int) = (shapeI f x).2.1 := by
  simp only [shapedI, Bool.and_eq_true, Bool.not_eq_true', Bool.or_eq_false_iff, bne_eq_false_iff_eq] at h
  exact ⟨h.1.1.1.2, h.1.1.2⟩
theorem class_args {f : Fn} {x : Inst} {c n : Int} (h : shapedI f x = true) (hc : classR x.op = c) (hn : ∀ x, classR x.op = c → (shapeI f x).1 = n) : (x.args.length : Int) = n := (shaped_args h).1.trans (hn x hc)
theorem kind_at {f : Fn} {v : Int} (h0 : ¬ v < 0) (h1 : v < (kindsR f).length) : kindR f v = (kindsR f)[v.toNat]'(by omega) := by
  unfold kindR
  rw [if_neg h0, List.getD_eq_getElem?_getD, List.getElem?_eq_getElem (by omega)]; rfl
theorem kind_out {f : Fn} {v : Int} (h : v < 0 ∨ v ≥ (kindsR f).length) : kindR f v = -1 := by
  unfold kindR
  by_cases h0 : v < 0
  · rw [if_pos h0]
  · rw [if_neg h0, List.getD_eq_getElem?_getD, List.getElem?_eq_none (by omega)]; rfl
end Go.AL
namespace Go.AL
open Go.Proofs
theorem u73 : Tryz.prog.underlying 73 = some Tryz.t73.desc := by kernel_rfl
theorem s73 : (Tryz.prog.info? 73).map (·.size) = some 1 := by kernel_rfl
theorem z73 : (Tryz.prog.info? 73).bind (·.zero) = Tryz.t73.zero := by kernel_rfl
theorem b73 : ((Tryz.prog.info? 73).map fun i => Nat.ble i.bytes 1000) = some true := by kernel_rfl
theorem e100 : Enters Tryz.prog 100 := enters_of Tryz.func100 (by kernel_rfl) (by kernel_rfl)
set_option maxRecDepth 100000 in
set_option maxHeartbeats 4000000 in
theorem c100 (f : Fn) (hf : f.Fits) (hs : total f.blocks ≤ 1000) (hp : f.params.length ≤ 1000) : Ok Tryz.prog 100 [.dat none (fnD f)] [] (.row 100001 1 0 (kindsR f).length) [(100001, .row 1 (ints (kindsR f)))] := by
  refine ok_of e100 Tryz.func100 rfl (by kernel_rfl) ?_
  intro cx hP hro hN hvk
  obtain ⟨P, ro, w0, Bin, N, R0, tk0, bl0, vk⟩ := cx
  subst hP hro hN
  have hvkd := vkd_of hvk
  refine aw_seq ?_
  refine aw_region ?_
  refine al_opc (k := 101) rfl rfl rfl ((hvk _).trans rfl) (opC_box rfl (ev_tmp rfl) rfl) ?_
  refine al_op rfl rfl rfl (opP_assign rfl (ev_const rfl)) ?_
  refine al_nil ?_
  refine aw_seq ?_
  refine aw_region ?_
  refine al_op rfl rfl rfl (opP_fieldAddr rfl (ev_tmp rfl) u27 rfl rfl s22 rfl) ?_
  refine al_op rfl rfl rfl (opP_load_pt rfl u22 rfl (ev_tmp rfl) rfl rfl) ?_
  refine al_call ((fun _ => 100001)) rfl rfl rfl (callOf_func rfl (.cons (ev_tmp rfl) .nil)) (c59 f.params hf.params) (by repeat' (first | refine Vw.stDOf ?_ | refine Vw.ptOf rfl rfl rfl ?_ | refine Vw.prvOf ?_ | refine Vw.cloOf ?_ | constructor)) (fun _ h => absurd h (by simp)) rfl rfl rfl (fun p hp => .inr ((hvk _).trans (by simp at hp; subst hp; rfl))) ?_
  refine al_opc (k := 102) rfl rfl rfl ((hvk _).trans rfl) (opC_alloc rfl z22) ?_
  refine al_store_pt rfl rfl rfl s22 (ev_tmp rfl) (ev_tmp rfl) rfl rfl rfl rfl rfl rfl ?_
  refine al_nil ?_
  refine aw_seq ?_
  refine aw_seq ?_
  refine aw_region ?_
  refine al_op rfl rfl rfl (opP_load_ptn rfl u27 rfl s27 (ev_tmp rfl) rfl rfl) ?_
  refine al_callR (id) rfl rfl rfl (callOf_func rfl (.cons (ev_tmp rfl) .nil)) (c97 f) (by repeat' (first | refine VwR.stDOf ?_ | refine VwR.stOf ?_ | refine VwR.cloOf ?_ | constructor)) rfl rfl rfl (fun p hp => (hvk _).trans (by simp at hp; subst hp; rfl)) ?_
  refine al_nil ?_
  refine aw_block ?_
  refine aw_range (α := Unit) (p := 10) (it160 f hf 97001 rfl) rfl rfl rfl 301 [102] [100001] [(3, .pt 102 0)] [(3, .pt 102 0)] [(97001, .var (fnA f))] (fun n _ => [(102, .var [.row 100001 1 0 (f.params.length + n)]), (100001, .row 1 (ints (kindsN f n)))]) (fun n _ => True) (fun _ _ => False) (fun n => itemOf f n) () trivial rfl ((hvk _).trans rfl) (fun k hk => hvkd [100001] rfl k (inL_iff.1 hk)) (fun k hk => hvkd [160001] rfl k (inL_iff.1 hk)) rfl rfl rfl rfl (by repeat (first | exact trivial | refine ⟨rfl, ?_⟩)) rfl rfl ⟨rfl, rfl, by rw [show kindsN f 0 = f.params by simp [kindsN]]; rfl, trivial⟩ (by repeat (first | exact trivial | refine ⟨rfl, ?_⟩)) (fun objs h => has_one h) (fun n x h => rfl) (fun _ _ h => h.elim) (fun n x h => rfl) (fun _ _ h => h.elim) (fun n hn _ objs _ => item_vw hn objs _) (fun n x h => (by repeat' (first | exact VwS.nil | refine VwS.cons ?_ ?_ | refine Vw.ptOf rfl rfl rfl ?_ | refine Vw.prvOf ?_ | refine Vw.cloOf ?_ | constructor))) ?_ ?_ ?_
  · rintro n hn _ hI cx hP ⟨l, hro⟩ hN hvk
    obtain ⟨P, ro, w0, Bin, N, R0, tk0, bl0, vk⟩ := cx
    have hP : P = Tryz.prog := hP
    have hN : N = Tryz.f100.ntmps := hN
    have hro : ro = some l := hro
    subst hP hN hro
    have hvkd := vkd_of hvk
    obtain ⟨b, i, hb, hi, hnn, hit, hpl⟩ := item_at hn
    rw [hit]
    have hnl : n < (placed f).length := by rw [placed_len, ← items_len]; exact hn
    refine aw_region ?_
    refine al_opc (k := 103) rfl rfl rfl ((hvk _).trans rfl) (opC_alloc rfl z129) ?_
    refine al_store_pt rfl rfl rfl s129 (ev_tmp rfl) (ev_tmp rfl) rfl rfl rfl rfl rfl rfl ?_
    refine al_nil ?_
    refine ⟨rfl, ?_⟩
    rintro cx hP ⟨l, hro⟩ hN hvk
    obtain ⟨P, ro, w0, Bin, N, R0, tk0, bl0, vk⟩ := cx
    have hP : P = Tryz.prog := hP
    have hN : N = Tryz.f100.ntmps := hN
    have hro : ro = some l := hro
    subst hP hN hro
    have hvkd := vkd_of hvk
    refine aw_block ?_
    refine aw_region ?_
    refine al_op rfl rfl rfl (opP_load_pt rfl u22 rfl (ev_tmp rfl) rfl rfl) ?_
    refine al_op rfl rfl rfl (opP_fieldAddr rfl (ev_tmp rfl) u129 rfl rfl s38 rfl) ?_
    refine al_op rfl rfl rfl (opP_fieldAddr rfl (ev_tmp rfl) u38 rfl rfl s3 rfl) ?_
    refine al_op rfl rfl rfl (opP_load_pt rfl u3 rfl (ev_tmp rfl) rfl rfl) ?_
    refine al_opc (k := 201) rfl rfl rfl ((hvk _).trans rfl) (opC_buildSlice (ds := [.int .i64 _]) rfl u22 s3 z3 rfl rfl (.cons (ev_tmp rfl) .nil) rfl rfl (.cons (.v _ rfl) .nil) rfl rfl rfl) ?_
    refine al_opc rfl rfl rfl ((hvk _).trans rfl) (opC_append rfl u22 s3 z3 rfl b3 (ev_tmp rfl) (ev_tmp rfl) (.row 100001 1 _ _ rfl (by rw [ints_len, kindsN_len (by omega)])) (.row 201 1 _ _ rfl rfl) rfl rfl (by rw [ints_len, kindsN_len (by omega)]; have := hf.params; have := placed_len f; simp; omega) rfl) ?_
    refine al_store_pt rfl rfl rfl s22 (ev_tmp rfl) (ev_tmp rfl) rfl rfl rfl rfl rfl rfl ?_
    refine al_nil ?_
    refine round_id [(102, .var [.row 100001 1 0 (f.params.length + (n + 1))]), (100001, .row 1 (ints (kindsN f (n + 1))))] ⟨(), trivial, rfl⟩ ⟨?_, ?_, trivial⟩ rfl
    · show some (O.var [A.row 100001 1 0 ((ints (kindsN f n)).length + 1)]) = _
      rw [ints_len, kindsN_len (by omega)]; rfl
    · rw [kindsN_succ hpl, show ints (kindsN f n ++ [f.blocks[b][i].w]) = ints (kindsN f n) ++ [.int .i64 f.blocks[b][i].w] by simp [ints]]; rfl
  · rintro _ hI
    refine aw_seq ?_
    refine aw_region ?_
    refine al_op rfl rfl rfl (opP_load_pt rfl u22 rfl (ev_tmp rfl) rfl rfl) ?_
    refine al_op rfl rfl rfl (opP_assign rfl (ev_tmp rfl)) ?_
    refine al_nil ?_
    refine aw_ret ?_
    have e1 : kindsN f (itemsA f).length = kindsR f := kindsN_all (by rw [placed_len, items_len]; omega)
    have e2 : (kindsR f).length = f.params.length + (itemsA f).length := by rw [← e1, kindsN_len (by rw [placed_len, items_len]; omega)]
    rw [e2, ← e1]
    exact ret_id _ (.tmp rfl .nil) rfl ⟨rfl, trivial⟩ rfl rfl
  · exact fun _ _ h => h.elim
theorem e166 : Enters Tryz.prog 166 := enters_of Tryz.func166 (by kernel_rfl) (by kernel_rfl)
set_option maxRecDepth 100000 in
set_option maxHeartbeats 4000000 in
theorem c166 (f : Fn) (x : Inst) (i : Nat) (hi : i < x.args.length) : Ok Tryz.prog 166 [.v (.int .i64 i), .prv (instA x), .prv [.dat none (.sl 1 (ints (kindsR f)))]] [] (.v (.int .i64 (ofI f x i))) [] := by
  refine ok_of e166 Tryz.func166 rfl (by kernel_rfl) ?_
  intro cx hP hro hN hvk
  obtain ⟨P, ro, w0, Bin, N, R0, tk0, bl0, vk⟩ := cx
  subst hP hro hN
  have hvkd := vkd_of hvk
  refine aw_seq ?_
  refine aw_region ?_
  refine al_op rfl rfl rfl (opP_assign rfl (ev_const rfl)) ?_
  refine al_nil ?_
  refine aw_seq ?_
  refine aw_region ?_
  refine al_op rfl rfl rfl (opP_fieldAddr rfl (ev_tmp rfl) u38 rfl rfl s22 rfl) ?_
  refine al_op rfl rfl rfl (opP_load_prv rfl u22 rfl (ev_tmp rfl)) ?_
  refine al_op rfl rfl rfl (opP_move rfl (ev_tmp rfl)) ?_
  refine al_op rfl rfl rfl (opP_index_dat rfl u22 s3 (ev_tmp rfl) (ev_tmp rfl) (fun _ => Int.natCast_nonneg _) (fun _ => ints_getD hi)) ?_
  refine al_op rfl rfl rfl (opP_load_pr rfl u3 rfl (ev_tmp rfl)) ?_
  refine al_op rfl rfl rfl (opP_assign rfl (ev_tmp rfl)) ?_
  refine al_nil ?_
  refine aw_seq ?_
  refine aw_seq ?_
  refine aw_region ?_
  refine al_op rfl rfl rfl (opP_move rfl (ev_tmp rfl)) ?_
  refine al_op rfl rfl rfl (opP_bin rfl (ev_tmp rfl) (ev_const rfl) rfl) ?_
  refine al_op rfl rfl rfl (opP_move rfl (ev_tmp rfl)) ?_
  refine al_opg rfl rfl rfl rfl rfl rfl (opP_move rfl (ev_tmp rfl)) ?_
  refine al_opg rfl rfl rfl rfl rfl rfl (opP_load_prv rfl u22 rfl (ev_tmp rfl)) ?_
  refine al_opg rfl rfl rfl rfl rfl rfl (opP_len rfl u22 (ev_when rfl id) (by first | exact lenA_ints | exact lenA_map | rfl)) ?_
  refine al_opg rfl rfl rfl rfl rfl rfl (opP_bin rfl (ev_when rfl id) (ev_when rfl id) rfl) ?_
  refine al_op rfl rfl rfl (opP_or rfl (ev_tmp rfl) (ev_when rfl id)) ?_
  refine al_nil ?_
  refine aw_cond rfl (fun h1 => ?_) (fun h1 => ?_)
  · refine aw_seq ?_
    refine aw_region ?_
    refine al_op rfl rfl rfl (opP_assign rfl (ev_const rfl)) ?_
    refine al_nil ?_
    refine aw_ret ?_
    have e : ofI f x i = -1 := kind_out (by simpa [ints_len] using h1)
    rw [e]; exact ret_id _ (.tmp rfl .nil) rfl trivial rfl rfl
  have hh : ¬ x.args.getD i 0 < 0 ∧ x.args.getD i 0 < (kindsR f).length := by
    have h2 : (decide (x.args.getD i 0 < 0) || decide (x.args.getD i 0 ≥ ((kindsR f).length : Int))) = false := h1
    simp only [Bool.or_eq_false_iff, decide_eq_false_iff_not] at h2
    omega
  have e : ofI f x i = (kindsR f)[(x.args.getD i 0).toNat]'(by omega) := kind_at hh.1 hh.2
  have hidx : (ints (kindsR f))[(x.args.getD i 0).toNat]? = some (.int .i64 ((kindsR f)[(x.args.getD i 0).toNat]'(by omega))) := ints_get (by omega)
  refine aw_skip ?_
  refine aw_seq ?_
  refine aw_region ?_
  refine al_op rfl rfl rfl (opP_load_prv rfl u22 rfl (ev_tmp rfl)) ?_
  refine al_op rfl rfl rfl (opP_move rfl (ev_tmp rfl)) ?_
  refine al_op rfl rfl rfl (opP_index_dat rfl u22 s3 (ev_tmp rfl) (ev_tmp rfl) (fun _ => show 0 ≤ x.args.getD i 0 by omega) (fun _ => hidx)) ?_
  refine al_op rfl rfl rfl (opP_load_pr rfl u3 rfl (ev_tmp rfl)) ?_
  refine al_op rfl rfl rfl (opP_assign rfl (ev_tmp rfl)) ?_
  refine al_nil ?_
  refine aw_ret ?_
  rw [e]; exact ret_id _ (.tmp rfl .nil) rfl trivial rfl rfl
theorem e167 : Enters Tryz.prog 167 := enters_of Tryz.func167 (by kernel_rfl) (by kernel_rfl)
set_option maxRecDepth 100000 in
set_option maxHeartbeats 4000000 in
theorem c167 (f : Fn) (x : Inst) (k : Int) (hx : x.Fits) : Ok Tryz.prog 167 [.v (.int .i64 k), .prv (instA x), .prv [.clo 166 [.prv (instA x), .prv [.dat none (.sl 1 (ints (kindsR f)))]]]] [] (.v (.bool (eachI f x k))) [] := by
  refine ok_of e167 Tryz.func167 rfl (by kernel_rfl) ?_
  intro cx hP hro hN hvk
  obtain ⟨P, ro, w0, Bin, N, R0, tk0, bl0, vk⟩ := cx
  subst hP hro hN
  have hvkd := vkd_of hvk
  have hxa := hx.args
  refine aw_seq ?_
  refine aw_region ?_
  refine al_op rfl rfl rfl (opP_assign rfl (ev_const rfl)) ?_
  refine al_nil ?_
  refine aw_seq ?_
  refine aw_seq ?_
  refine aw_region ?_
  refine al_op rfl rfl rfl (opP_fieldAddr rfl (ev_tmp rfl) u38 rfl rfl s22 rfl) ?_
  refine al_op rfl rfl rfl (opP_load_prv rfl u22 rfl (ev_tmp rfl)) ?_
  refine al_op rfl rfl rfl (opP_len rfl u22 (ev_tmp rfl) (by first | exact lenA_ints | exact lenA_map | rfl)) ?_
  refine al_op rfl rfl rfl (opP_move rfl (ev_const rfl)) ?_
  refine al_nil ?_
  refine aw_block ?_
  refine aw_loop' (α := Nat) (fun i => [(0, .v (.int .i64 k)), (2, .prv [.clo 166 [.prv (instA x), .prv [.dat none (.sl 1 (ints (kindsR f)))]]]), (8, .v (.int .i64 x.args.length)), (9, .v (.int .i64 i))]) (fun i => []) (fun i => i ≤ x.args.length ∧ (x.args.take i).all (fun v => kindR f v == k) = true) (fun i => x.args.length - i) 0 ⟨Nat.zero_le _, rfl⟩ id (Fit.of trivial ⟨rfl, rfl, rfl, rfl, trivial⟩ rfl rfl) ?_
  rintro i ⟨hi, hal⟩
  refine aw_seq ?_
  refine aw_region ?_
  refine al_op rfl rfl rfl (opP_bin rfl (ev_tmp rfl) (ev_tmp rfl) rfl) ?_
  refine al_nil ?_
  refine aw_seq ?_
  refine aw_condS rfl (fun h1 => ?_) (fun h1 => ?_)
  · refine aw_exit ?_
    refine aw_seq ?_
    refine aw_region ?_
    refine al_op rfl rfl rfl (opP_assign rfl (ev_const rfl)) ?_
    refine al_nil ?_
    refine aw_ret ?_
    have e : eachI f x k = true := by
      have e0 : i = x.args.length := by simp [ints_len] at h1; omega
      rw [e0, List.take_length] at hal; exact hal
    rw [e]; exact ret_id _ (.tmp rfl .nil) rfl trivial rfl rfl
  have hil : i < x.args.length := by simpa [ints_len] using h1
  have hgd : x.args.getD i 0 = x.args[i] := by simp [hil]
  refine aw_skip ?_
  refine aw_seq ?_
  refine aw_block ?_
  refine aw_seq ?_
  refine aw_region ?_
  refine al_op rfl rfl rfl (opP_move rfl (ev_tmp rfl)) ?_
  refine al_op rfl rfl rfl (opP_assign rfl (ev_tmp rfl)) ?_
  refine al_nil ?_
  refine aw_seq ?_
  refine aw_region ?_
  refine al_op rfl rfl rfl (opP_load_prv rfl u73 rfl (ev_tmp rfl)) ?_
  refine al_op rfl rfl rfl (opP_move rfl (ev_tmp rfl)) ?_
  refine al_call (id) rfl rfl rfl (callOf_clo rfl (ev_tmp rfl) (.cons (ev_tmp rfl) .nil)) (c166 f x i hil) (by repeat' (first | refine Vw.stDOf ?_ | refine Vw.ptOf rfl rfl rfl ?_ | refine Vw.prvOf ?_ | refine Vw.cloOf ?_ | constructor)) (fun _ h => absurd h (by simp)) rfl rfl rfl (fun _ h => absurd h (by simp)) ?_
  refine al_op rfl rfl rfl (opP_move rfl (ev_tmp rfl)) ?_
  refine al_op rfl rfl rfl (opP_bin rfl (ev_tmp rfl) (ev_tmp rfl) rfl) ?_
  refine al_nil ?_
  refine aw_condS rfl (fun h2 => ?_) (fun h2 => ?_)
  · refine aw_skip ?_
    refine aw_region ?_
    refine al_op rfl rfl rfl (opP_bin rfl (ev_tmp rfl) (ev_const rfl) rfl) ?_
    refine al_op rfl rfl rfl (opP_move rfl (ev_tmp rfl)) ?_
    refine al_nil ?_
    refine ⟨i + 1, id, ⟨hil, ?_⟩, by omega, Fit.of trivial ⟨rfl, rfl, rfl, by rw [← wrapS (by omega)]; rfl, trivial⟩ rfl rfl⟩
    rw [List.take_succ_eq_append_getElem hil, List.all_append, hal, ← hgd]
    have : ofI f x i = k := by simpa using h2
    simp [← this, ofI]
  refine aw_seq ?_
  refine aw_region ?_
  refine al_op rfl rfl rfl (opP_assign rfl (ev_const rfl)) ?_
  refine al_nil ?_
  refine aw_ret ?_
  have e : eachI f x k = false := by
    refine List.all_eq_false.2 ⟨x.args[i], List.getElem_mem hil, ?_⟩
    have : ofI f x i ≠ k := by simpa using h2
    rw [← hgd]; simpa [ofI] using this
  rw [e]; exact ret_id _ (.tmp rfl .nil) rfl trivial rfl rfl
theorem e101 : Enters Tryz.prog 101 := enters_of Tryz.func101 (by kernel_rfl) (by kernel_rfl)
set_option maxRecDepth 100000 in
set_option maxHeartbeats 4000000 in
theorem c101 (f : Fn) (x : Inst) (hx : x.Fits) (hs : shapedI f x = true) : Ok Tryz.prog 101 [.dat none (fnD f), .dat none (instD x), .dat none (.sl 1 (ints (kindsR f)))] [] (.v (.bool (typedI f x))) [] := by
  refine ok_of e101 Tryz.func101 rfl (by kernel_rfl) ?_
  intro cx hP hro hN hvk
  obtain ⟨P, ro, w0, Bin, N, R0, tk0, bl0, vk⟩ := cx
  subst hP hro hN
  have hvkd := vkd_of hvk
  refine aw_seq ?_
  refine aw_region ?_
  refine al_opc (k := 101) rfl rfl rfl ((hvk _).trans rfl) (opC_box rfl (ev_tmp rfl) rfl) ?_
  refine al_opc (k := 102) rfl rfl rfl ((hvk _).trans rfl) (opC_box rfl (ev_tmp rfl) rfl) ?_
  refine al_opc (k := 103) rfl rfl rfl ((hvk _).trans rfl) (opC_box rfl (ev_tmp rfl) rfl) ?_
  refine al_op rfl rfl rfl (opP_assign rfl (ev_const rfl)) ?_
  refine al_nil ?_
  refine aw_seq ?_
  refine aw_region ?_
  refine al_op rfl rfl rfl (opP_makeFunc rfl (.cons (ev_tmp rfl) (.cons (ev_tmp rfl) .nil))) ?_
  refine al_opc (k := 104) rfl rfl rfl ((hvk _).trans rfl) (opC_alloc rfl z73) ?_
  refine al_store_pt rfl rfl rfl s73 (ev_tmp rfl) (ev_tmp rfl) rfl rfl rfl rfl rfl rfl ?_
  refine al_nil ?_
  refine aw_seq ?_
  refine aw_region ?_
  refine al_op rfl rfl rfl (opP_makeFunc rfl (.cons (ev_tmp rfl) (.cons (ev_tmp rfl) .nil))) ?_
  refine al_op rfl rfl rfl (opP_assign rfl (ev_tmp rfl)) ?_
  refine al_nil ?_
  refine aw_seq ?_
  refine aw_seq ?_
  refine aw_region ?_
  refine al_op rfl rfl rfl (opP_fieldAddr rfl (ev_tmp rfl) u38 rfl rfl s3 rfl) ?_
  refine al_op rfl rfl rfl (opP_load_pt rfl u3 rfl (ev_tmp rfl) rfl rfl) ?_
  refine al_call (id) rfl rfl rfl (callOf_func rfl (.cons (ev_tmp rfl) .nil)) (c168 x.op) (by repeat' (first | refine Vw.stDOf ?_ | refine Vw.ptOf rfl rfl rfl ?_ | refine Vw.prvOf ?_ | refine Vw.cloOf ?_ | constructor)) (fun _ h => absurd h (by simp)) rfl rfl rfl (fun _ h => absurd h (by simp)) ?_
  refine al_nil ?_
  refine aw_block ?_
  refine aw_seq ?_
  refine aw_seq ?_
  refine aw_region ?_
  refine al_op rfl rfl rfl (opP_bin rfl (ev_tmp rfl) (ev_const rfl) rfl) ?_
  refine al_op rfl rfl rfl (opP_assign rfl (ev_tmp rfl)) ?_
  refine al_nil ?_
  refine aw_cond rfl (fun h1 => ?_) (fun h1 => ?_)
  · refine aw_skip ?_
    refine aw_condT rfl h1 ?_
    refine aw_seq ?_
    refine aw_region ?_
    refine al_op rfl rfl rfl (opP_move rfl (ev_tmp rfl)) ?_
    refine al_op rfl rfl rfl (opP_fieldAddr rfl (ev_tmp rfl) u38 rfl rfl s3 rfl) ?_
    refine al_op rfl rfl rfl (opP_load_pt rfl u3 rfl (ev_tmp rfl) rfl rfl) ?_
    refine al_call (id) rfl rfl rfl (callOf_clo rfl (ev_tmp rfl) (.cons (ev_tmp rfl) .nil)) (c167 f x x.w hx) (by repeat' (first | refine Vw.stDOf ?_ | refine Vw.ptOf rfl rfl rfl ?_ | refine Vw.prvOf ?_ | refine Vw.cloOf ?_ | constructor)) (fun _ h => absurd h (by simp)) rfl rfl rfl (fun _ h => absurd h (by simp)) ?_
    refine al_op rfl rfl rfl (opP_assign rfl (ev_tmp rfl)) ?_
    refine al_nil ?_
    refine aw_ret ?_
    exact ret_id ([.v (.bool _)]) (.tmp rfl .nil) (by simp [oneOf, typedI, *]) (by first | exact trivial | exact ⟨rfl, trivial⟩ | exact ⟨rfl, rfl, trivial⟩ | exact ⟨rfl, rfl, rfl, trivial⟩ | exact ⟨rfl, rfl, rfl, rfl, trivial⟩) rfl rfl
  refine aw_seq ?_
  refine aw_region ?_
  refine al_op rfl rfl rfl (opP_bin rfl (ev_tmp rfl) (ev_const rfl) rfl) ?_
  refine al_op rfl rfl rfl (opP_assign rfl (ev_tmp rfl)) ?_
  refine al_nil ?_
  refine aw_cond rfl (fun h2 => ?_) (fun h2 => ?_)
  · refine aw_skip ?_
    refine aw_condT rfl h2 ?_
    refine aw_seq ?_
    refine aw_region ?_
    refine al_op rfl rfl rfl (opP_move rfl (ev_tmp rfl)) ?_
    refine al_op rfl rfl rfl (opP_fieldAddr rfl (ev_tmp rfl) u38 rfl rfl s3 rfl) ?_
    refine al_op rfl rfl rfl (opP_load_pt rfl u3 rfl (ev_tmp rfl) rfl rfl) ?_
    refine al_call (id) rfl rfl rfl (callOf_clo rfl (ev_tmp rfl) (.cons (ev_tmp rfl) .nil)) (c167 f x x.w hx) (by repeat' (first | refine Vw.stDOf ?_ | refine Vw.ptOf rfl rfl rfl ?_ | refine Vw.prvOf ?_ | refine Vw.cloOf ?_ | constructor)) (fun _ h => absurd h (by simp)) rfl rfl rfl (fun _ h => absurd h (by simp)) ?_
    refine al_op rfl rfl rfl (opP_assign rfl (ev_tmp rfl)) ?_
    refine al_nil ?_
    refine aw_ret ?_
    exact ret_id ([.v (.bool _)]) (.tmp rfl .nil) (by simp [oneOf, typedI, *]) (by first | exact trivial | exact ⟨rfl, trivial⟩ | exact ⟨rfl, rfl, trivial⟩ | exact ⟨rfl, rfl, rfl, trivial⟩ | exact ⟨rfl, rfl, rfl, rfl, trivial⟩) rfl rfl
  refine aw_seq ?_
  refine aw_region ?_
  refine al_op rfl rfl rfl (opP_bin rfl (ev_tmp rfl) (ev_const rfl) rfl) ?_
  refine al_op rfl rfl rfl (opP_assign rfl (ev_tmp rfl)) ?_
  refine al_nil ?_
  refine aw_cond rfl (fun h3 => ?_) (fun h3 => ?_)
  · refine aw_skip ?_
    refine aw_condT rfl h3 ?_
    refine aw_seq ?_
    refine aw_region ?_
    refine al_op rfl rfl rfl (opP_move rfl (ev_tmp rfl)) ?_
    refine al_op rfl rfl rfl (opP_fieldAddr rfl (ev_tmp rfl) u38 rfl rfl s3 rfl) ?_
    refine al_op rfl rfl rfl (opP_load_pt rfl u3 rfl (ev_tmp rfl) rfl rfl) ?_
    refine al_call (id) rfl rfl rfl (callOf_clo rfl (ev_tmp rfl) (.cons (ev_tmp rfl) .nil)) (c167 f x x.w hx) (by repeat' (first | refine Vw.stDOf ?_ | refine Vw.ptOf rfl rfl rfl ?_ | refine Vw.prvOf ?_ | refine Vw.cloOf ?_ | constructor)) (fun _ h => absurd h (by simp)) rfl rfl rfl (fun _ h => absurd h (by simp)) ?_
    refine al_op rfl rfl rfl (opP_assign rfl (ev_tmp rfl)) ?_
    refine al_nil ?_
    refine aw_ret ?_
    exact ret_id ([.v (.bool _)]) (.tmp rfl .nil) (by simp [oneOf, typedI, *]) (by first | exact trivial | exact ⟨rfl, trivial⟩ | exact ⟨rfl, rfl, trivial⟩ | exact ⟨rfl, rfl, rfl, trivial⟩ | exact ⟨rfl, rfl, rfl, rfl, trivial⟩) rfl rfl
  refine aw_region ?_
  refine al_op rfl rfl rfl (opP_bin rfl (ev_tmp rfl) (ev_const rfl) rfl) ?_
  refine al_op rfl rfl rfl (opP_assign rfl (ev_tmp rfl)) ?_
  refine al_nil ?_
  refine aw_cond rfl (fun h4 => ?_) (fun h4 => ?_)
  · refine aw_seq ?_
    refine aw_region ?_
    refine al_op rfl rfl rfl (opP_move rfl (ev_tmp rfl)) ?_
    refine al_op rfl rfl rfl (opP_fieldAddr rfl (ev_tmp rfl) u38 rfl rfl s3 rfl) ?_
    refine al_op rfl rfl rfl (opP_load_pt rfl u3 rfl (ev_tmp rfl) rfl rfl) ?_
    refine al_call (id) rfl rfl rfl (callOf_clo rfl (ev_tmp rfl) (.cons (ev_tmp rfl) .nil)) (c167 f x x.w hx) (by repeat' (first | refine Vw.stDOf ?_ | refine Vw.ptOf rfl rfl rfl ?_ | refine Vw.prvOf ?_ | refine Vw.cloOf ?_ | constructor)) (fun _ h => absurd h (by simp)) rfl rfl rfl (fun _ h => absurd h (by simp)) ?_
    refine al_op rfl rfl rfl (opP_assign rfl (ev_tmp rfl)) ?_
    refine al_nil ?_
    refine aw_ret ?_
    exact ret_id ([.v (.bool _)]) (.tmp rfl .nil) (by simp [oneOf, typedI, *]) (by first | exact trivial | exact ⟨rfl, trivial⟩ | exact ⟨rfl, rfl, trivial⟩ | exact ⟨rfl, rfl, rfl, trivial⟩ | exact ⟨rfl, rfl, rfl, rfl, trivial⟩) rfl rfl
  refine aw_seq ?_
  refine aw_region ?_
  refine al_op rfl rfl rfl (opP_bin rfl (ev_tmp rfl) (ev_const rfl) rfl) ?_
  refine al_op rfl rfl rfl (opP_assign rfl (ev_tmp rfl)) ?_
  refine al_nil ?_
  refine aw_cond rfl (fun h5 => ?_) (fun h5 => ?_)
  · have hc : classR x.op = 3 := by simpa using h5
    have hn : (x.args.length : Int) = 2 := class_args hs hc (fun x hc => by simp [shapeI, hc])
    refine aw_seq ?_
    refine aw_region ?_
    refine al_op rfl rfl rfl (opP_load_pt rfl u73 rfl (ev_tmp rfl) rfl rfl) ?_
    refine al_call (id) rfl rfl rfl (callOf_clo rfl (ev_tmp rfl) (.cons (ev_const rfl) .nil)) (c166 f x 0 (by omega)) (by repeat' (first | refine Vw.stDOf ?_ | refine Vw.ptOf rfl rfl rfl ?_ | refine Vw.prvOf ?_ | refine Vw.cloOf ?_ | constructor)) (fun _ h => absurd h (by simp)) rfl rfl rfl (fun _ h => absurd h (by simp)) ?_
    refine al_call (id) rfl rfl rfl (callOf_func rfl (.cons (ev_tmp rfl) .nil)) (c158 (ofI f x 0)) (by repeat' (first | refine Vw.stDOf ?_ | refine Vw.ptOf rfl rfl rfl ?_ | refine Vw.prvOf ?_ | refine Vw.cloOf ?_ | constructor)) (fun _ h => absurd h (by simp)) rfl rfl rfl (fun _ h => absurd h (by simp)) ?_
    refine al_op rfl rfl rfl (opP_move rfl (ev_tmp rfl)) ?_
    refine al_opg rfl rfl rfl rfl rfl rfl (opP_move rfl (ev_tmp rfl)) ?_
    refine al_opg rfl rfl rfl rfl rfl rfl (opP_load_pt rfl u73 rfl (ev_tmp rfl) rfl rfl) ?_
    refine al_stepD rfl rfl (stepD_callg rfl rfl rfl rfl (callOf_clo rfl (ev_when rfl id) (.cons (ev_const rfl) .nil)) (fun gd => c166 f x 0 (by omega)) (fun gd => (by repeat' (first | refine Vw.stDOf ?_ | refine Vw.ptOf rfl rfl rfl ?_ | refine Vw.prvOf ?_ | refine Vw.cloOf ?_ | constructor))) rfl (fun _ => rfl)) ?_
    refine al_stepD rfl rfl (stepD_callg rfl rfl rfl rfl (callOf_clo rfl (ev_when rfl id) (.cons (ev_when rfl id) .nil)) (fun gd => c167 f x (ofI f x 0) hx) (fun gd => (by repeat' (first | refine Vw.stDOf ?_ | refine Vw.ptOf rfl rfl rfl ?_ | refine Vw.prvOf ?_ | refine Vw.cloOf ?_ | constructor))) rfl (fun _ => rfl)) ?_
    refine al_op rfl rfl rfl (opP_and rfl (ev_tmp rfl) (ev_when rfl id)) ?_
    refine al_op rfl rfl rfl (opP_assign rfl (ev_tmp rfl)) ?_
    refine al_nil ?_
    refine aw_ret ?_
    exact ret_id ([.v (.bool _)]) (.tmp rfl .nil) (by simp [oneOf, typedI, *]) (by first | exact trivial | exact ⟨rfl, trivial⟩ | exact ⟨rfl, rfl, trivial⟩ | exact ⟨rfl, rfl, rfl, trivial⟩ | exact ⟨rfl, rfl, rfl, rfl, trivial⟩) rfl rfl
  refine aw_seq ?_
  refine aw_region ?_
  refine al_op rfl rfl rfl (opP_bin rfl (ev_tmp rfl) (ev_const rfl) rfl) ?_
  refine al_op rfl rfl rfl (opP_assign rfl (ev_tmp rfl)) ?_
  refine al_nil ?_
  refine aw_cond rfl (fun h6 => ?_) (fun h6 => ?_)
  · have hc : classR x.op = 4 := by simpa using h6
    have hn : (x.args.length : Int) = 3 := class_args hs hc (fun x hc => by simp [shapeI, hc])
    refine aw_seq ?_
    refine aw_draw mixed ?_
    apply ad_phase' [⟨0, 36, _, [], []⟩, ⟨1, 37, _, [0], []⟩, ⟨2, 38, _, [0, 1], []⟩, ⟨3, 39, _, [0, 1, 2], []⟩, ⟨4, 40, _, [0, 1, 2, 3], []⟩, ⟨5, 41, _, [0, 1, 2, 3, 4], []⟩, ⟨6, 42, _, [0, 1, 2, 3], []⟩, ⟨7, 43, _, [0, 1, 2, 3, 6], []⟩, ⟨8, 44, _, [0, 1, 2, 3, 4, 5, 6, 7], []⟩, ⟨9, 45, _, [0, 1, 2, 3, 4, 5, 6, 7, 8], []⟩, ⟨10, 46, _, [0, 1, 2, 3, 4, 5, 6, 7, 8, 9], []⟩, ⟨11, 47, _, [0, 1, 2, 3, 4, 5, 6, 7, 8, 9, 10], []⟩, ⟨12, 48, _, [0, 1, 2, 3, 4, 5, 6, 7, 8, 9, 10, 11], []⟩, ⟨13, 49, _, [0, 1, 2, 3, 4, 5, 6, 7, 8, 9, 10], []⟩, ⟨14, 50, _, [0, 1, 2, 3, 4, 5, 6, 7, 8, 9, 10, 13], []⟩, ⟨15, 51, _, [0, 1, 2, 3, 4, 5, 6, 7, 8, 9, 10, 11, 12, 13, 14], []⟩, ⟨16, 52, _, [0, 1, 2, 3, 4, 5, 6, 7, 8, 9, 10, 11, 12, 13, 14, 15], []⟩, ⟨17, 6, _, [0, 1, 2, 3, 4, 5, 6, 7, 8, 9, 10, 11, 12, 13, 14, 15, 16], []⟩] [] (fuelT := 0)
    · skip
      refine .cons rfl (stepD_op rfl (opP_load_pt rfl u73 rfl (ev_tmp rfl) rfl rfl)) ?_
      refine .cons rfl (stepD_call (id) rfl (callOf_clo rfl (ev_tmp rfl) (.cons (ev_const rfl) .nil)) (c166 f x 0 (by omega)) (by repeat' (first | refine Vw.stDOf ?_ | refine Vw.ptOf rfl rfl rfl ?_ | refine Vw.prvOf ?_ | refine Vw.cloOf ?_ | constructor)) rfl rfl rfl (fun _ => rfl) (fun _ => rfl)) ?_
      refine .cons rfl (stepD_op rfl (opP_bin rfl (ev_tmp rfl) (ev_const rfl) rfl)) ?_
      refine .cons rfl (stepD_op rfl (opP_move rfl (ev_tmp rfl))) ?_
      refine .cons rfl (stepD_opg rfl rfl rfl rfl (opP_load_pt rfl u73 rfl (ev_tmp rfl) rfl rfl)) ?_
      refine .cons rfl (stepD_callg rfl rfl rfl rfl (callOf_clo rfl (ev_when rfl id) (.cons (ev_const rfl) .nil)) (fun gd => c166 f x 1 (by omega)) (fun gd => (by repeat' (first | refine Vw.stDOf ?_ | refine Vw.ptOf rfl rfl rfl ?_ | refine Vw.prvOf ?_ | refine Vw.cloOf ?_ | constructor))) rfl (fun _ => rfl)) ?_
      refine .cons rfl (stepD_opg rfl rfl rfl rfl (opP_fieldAddr rfl (ev_tmp rfl) u38 rfl rfl s3 rfl)) ?_
      refine .cons rfl (stepD_opg rfl rfl rfl rfl (opP_load_pt rfl u3 rfl (ev_when rfl id) rfl rfl)) ?_
      refine .cons rfl (stepD_opg rfl rfl rfl rfl (opP_bin rfl (ev_when rfl id) (ev_when rfl id) rfl)) ?_
      refine .cons rfl (stepD_op rfl (opP_and rfl (ev_tmp rfl) (ev_when rfl id))) ?_
      refine .cons rfl (stepD_op rfl (opP_move rfl (ev_tmp rfl))) ?_
      refine .cons rfl (stepD_opg rfl rfl rfl rfl (opP_load_pt rfl u73 rfl (ev_tmp rfl) rfl rfl)) ?_
      refine .cons rfl (stepD_callg rfl rfl rfl rfl (callOf_clo rfl (ev_when rfl id) (.cons (ev_const rfl) .nil)) (fun gd => c166 f x 2 (by omega)) (fun gd => (by repeat' (first | refine Vw.stDOf ?_ | refine Vw.ptOf rfl rfl rfl ?_ | refine Vw.prvOf ?_ | refine Vw.cloOf ?_ | constructor))) rfl (fun _ => rfl)) ?_
      refine .cons rfl (stepD_opg rfl rfl rfl rfl (opP_fieldAddr rfl (ev_tmp rfl) u38 rfl rfl s3 rfl)) ?_
      refine .cons rfl (stepD_opg rfl rfl rfl rfl (opP_load_pt rfl u3 rfl (ev_when rfl id) rfl rfl)) ?_
      refine .cons rfl (stepD_opg rfl rfl rfl rfl (opP_bin rfl (ev_when rfl id) (ev_when rfl id) rfl)) ?_
      refine .cons rfl (stepD_op rfl (opP_and rfl (ev_tmp rfl) (ev_when rfl id))) ?_
      refine .cons rfl (stepD_op rfl (opP_assign rfl (ev_tmp rfl))) ?_
      exact .nil
    · exact .no rfl (.no rfl (.no rfl (.no rfl (.no rfl (.no rfl (.no rfl (.no rfl (.no rfl (.no rfl (.no rfl (.no rfl (.no rfl (.no rfl (.no rfl (.no rfl (.no rfl (.no rfl (.nil))))))))))))))))))
    · rfl
    · rfl
    · rfl
    · rfl
    · exact fun c s h => h
    · exact hvkd _ rfl
    · rfl
    refine ad_done rfl ?_
    refine aw_ret ?_
    exact ret_id ([.v (.bool _)]) (.tmp rfl .nil) (by simp [oneOf, typedI, *]) (by first | exact trivial | exact ⟨rfl, trivial⟩ | exact ⟨rfl, rfl, trivial⟩ | exact ⟨rfl, rfl, rfl, trivial⟩ | exact ⟨rfl, rfl, rfl, rfl, trivial⟩) rfl rfl
  refine aw_seq ?_
  refine aw_region ?_
  refine al_op rfl rfl rfl (opP_bin rfl (ev_tmp rfl) (ev_const rfl) rfl) ?_
  refine al_op rfl rfl rfl (opP_assign rfl (ev_tmp rfl)) ?_
  refine al_nil ?_
  refine aw_cond rfl (fun h7 => ?_) (fun h7 => ?_)
  · have hc : classR x.op = 5 := by simpa using h7
    have hn : (x.args.length : Int) = 1 := class_args hs hc (fun x hc => by simp [shapeI, hc])
    refine aw_seq ?_
    refine aw_draw mixed ?_
    apply ad_phase' [⟨0, 55, _, [], []⟩, ⟨1, 56, _, [0], []⟩, ⟨2, 57, _, [0, 1], []⟩, ⟨3, 58, _, [0, 1, 2], []⟩, ⟨4, 59, _, [0, 1, 2, 3], []⟩, ⟨5, 60, _, [0, 1, 2, 3, 4], []⟩, ⟨6, 61, _, [0, 1, 2, 3], []⟩, ⟨7, 62, _, [0, 1, 2, 3, 6], []⟩, ⟨8, 63, _, [0, 1, 2, 3, 4, 5, 6, 7], []⟩, ⟨9, 64, _, [0, 1, 2, 3, 4, 5, 6, 7, 8], []⟩, ⟨10, 6, _, [0, 1, 2, 3, 4, 5, 6, 7, 8, 9], []⟩] [] (fuelT := 0)
    · skip
      refine .cons rfl (stepD_op rfl (opP_load_pt rfl u73 rfl (ev_tmp rfl) rfl rfl)) ?_
      refine .cons rfl (stepD_call (id) rfl (callOf_clo rfl (ev_tmp rfl) (.cons (ev_const rfl) .nil)) (c166 f x 0 (by omega)) (by repeat' (first | refine Vw.stDOf ?_ | refine Vw.ptOf rfl rfl rfl ?_ | refine Vw.prvOf ?_ | refine Vw.cloOf ?_ | constructor)) rfl rfl rfl (fun _ => rfl) (fun _ => rfl)) ?_
      refine .cons rfl (stepD_call (id) rfl (callOf_func rfl (.cons (ev_tmp rfl) .nil)) (c158 (ofI f x 0)) (by repeat' (first | refine Vw.stDOf ?_ | refine Vw.ptOf rfl rfl rfl ?_ | refine Vw.prvOf ?_ | refine Vw.cloOf ?_ | constructor)) rfl rfl rfl (fun _ => rfl) (fun _ => rfl)) ?_
      refine .cons rfl (stepD_op rfl (opP_move rfl (ev_tmp rfl))) ?_
      refine .cons rfl (stepD_opg rfl rfl rfl rfl (opP_load_pt rfl u73 rfl (ev_tmp rfl) rfl rfl)) ?_
      refine .cons rfl (stepD_callg rfl rfl rfl rfl (callOf_clo rfl (ev_when rfl id) (.cons (ev_const rfl) .nil)) (fun gd => c166 f x 0 (by omega)) (fun gd => (by repeat' (first | refine Vw.stDOf ?_ | refine Vw.ptOf rfl rfl rfl ?_ | refine Vw.prvOf ?_ | refine Vw.cloOf ?_ | constructor))) rfl (fun _ => rfl)) ?_
      refine .cons rfl (stepD_opg rfl rfl rfl rfl (opP_fieldAddr rfl (ev_tmp rfl) u38 rfl rfl s3 rfl)) ?_
      refine .cons rfl (stepD_opg rfl rfl rfl rfl (opP_load_pt rfl u3 rfl (ev_when rfl id) rfl rfl)) ?_
      refine .cons rfl (stepD_opg rfl rfl rfl rfl (opP_bin rfl (ev_when rfl id) (ev_when rfl id) rfl)) ?_
      refine .cons rfl (stepD_op rfl (opP_and rfl (ev_tmp rfl) (ev_when rfl id))) ?_
      refine .cons rfl (stepD_op rfl (opP_assign rfl (ev_tmp rfl))) ?_
      exact .nil
    · exact .no rfl (.no rfl (.no rfl (.no rfl (.no rfl (.no rfl (.no rfl (.no rfl (.no rfl (.no rfl (.no rfl (.nil)))))))))))
    · rfl
    · rfl
    · rfl
    · rfl
    · exact fun c s h => h
    · exact hvkd _ rfl
    · rfl
    refine ad_done rfl ?_
    refine aw_ret ?_
    exact ret_id ([.v (.bool _)]) (.tmp rfl .nil) (by simp [oneOf, typedI, *]) (by first | exact trivial | exact ⟨rfl, trivial⟩ | exact ⟨rfl, rfl, trivial⟩ | exact ⟨rfl, rfl, rfl, trivial⟩ | exact ⟨rfl, rfl, rfl, rfl, trivial⟩) rfl rfl
  refine aw_seq ?_
  refine aw_region ?_
  refine al_op rfl rfl rfl (opP_bin rfl (ev_tmp rfl) (ev_const rfl) rfl) ?_
  refine al_op rfl rfl rfl (opP_assign rfl (ev_tmp rfl)) ?_
  refine al_nil ?_
  refine aw_cond rfl (fun h8 => ?_) (fun h8 => ?_)
  · have hc : classR x.op = 6 := by simpa using h8
    have hn : (x.args.length : Int) = 1 := class_args hs hc (fun x hc => by simp [shapeI, hc])
    refine aw_seq ?_
    refine aw_draw mixed ?_
    apply ad_phase' [⟨0, 67, _, [], []⟩, ⟨1, 68, _, [0], []⟩, ⟨2, 69, _, [0, 1], []⟩, ⟨3, 70, _, [0, 1, 2], []⟩, ⟨4, 71, _, [0, 1, 2, 3], []⟩, ⟨5, 72, _, [0, 1, 2, 3, 4], []⟩, ⟨6, 73, _, [0, 1, 2, 3], []⟩, ⟨7, 74, _, [0, 1, 2, 3, 6], []⟩, ⟨8, 75, _, [0, 1, 2, 3, 4, 5, 6, 7], []⟩, ⟨9, 76, _, [0, 1, 2, 3, 4, 5, 6, 7, 8], []⟩, ⟨10, 6, _, [0, 1, 2, 3, 4, 5, 6, 7, 8, 9], []⟩] [] (fuelT := 0)
    · skip
      refine .cons rfl (stepD_op rfl (opP_load_pt rfl u73 rfl (ev_tmp rfl) rfl rfl)) ?_
      refine .cons rfl (stepD_call (id) rfl (callOf_clo rfl (ev_tmp rfl) (.cons (ev_const rfl) .nil)) (c166 f x 0 (by omega)) (by repeat' (first | refine Vw.stDOf ?_ | refine Vw.ptOf rfl rfl rfl ?_ | refine Vw.prvOf ?_ | refine Vw.cloOf ?_ | constructor)) rfl rfl rfl (fun _ => rfl) (fun _ => rfl)) ?_
      refine .cons rfl (stepD_call (id) rfl (callOf_func rfl (.cons (ev_tmp rfl) .nil)) (c158 (ofI f x 0)) (by repeat' (first | refine Vw.stDOf ?_ | refine Vw.ptOf rfl rfl rfl ?_ | refine Vw.prvOf ?_ | refine Vw.cloOf ?_ | constructor)) rfl rfl rfl (fun _ => rfl) (fun _ => rfl)) ?_
      refine .cons rfl (stepD_op rfl (opP_move rfl (ev_tmp rfl))) ?_
      refine .cons rfl (stepD_opg rfl rfl rfl rfl (opP_load_pt rfl u73 rfl (ev_tmp rfl) rfl rfl)) ?_
      refine .cons rfl (stepD_callg rfl rfl rfl rfl (callOf_clo rfl (ev_when rfl id) (.cons (ev_const rfl) .nil)) (fun gd => c166 f x 0 (by omega)) (fun gd => (by repeat' (first | refine Vw.stDOf ?_ | refine Vw.ptOf rfl rfl rfl ?_ | refine Vw.prvOf ?_ | refine Vw.cloOf ?_ | constructor))) rfl (fun _ => rfl)) ?_
      refine .cons rfl (stepD_opg rfl rfl rfl rfl (opP_fieldAddr rfl (ev_tmp rfl) u38 rfl rfl s3 rfl)) ?_
      refine .cons rfl (stepD_opg rfl rfl rfl rfl (opP_load_pt rfl u3 rfl (ev_when rfl id) rfl rfl)) ?_
      refine .cons rfl (stepD_opg rfl rfl rfl rfl (opP_bin rfl (ev_when rfl id) (ev_when rfl id) rfl)) ?_
      refine .cons rfl (stepD_op rfl (opP_and rfl (ev_tmp rfl) (ev_when rfl id))) ?_
      refine .cons rfl (stepD_op rfl (opP_assign rfl (ev_tmp rfl))) ?_
      exact .nil
    · exact .no rfl (.no rfl (.no rfl (.no rfl (.no rfl (.no rfl (.no rfl (.no rfl (.no rfl (.no rfl (.no rfl (.nil)))))))))))
    · rfl
    · rfl
    · rfl
    · rfl
    · exact fun c s h => h
    · exact hvkd _ rfl
    · rfl
    refine ad_done rfl ?_
    refine aw_ret ?_
    exact ret_id ([.v (.bool _)]) (.tmp rfl .nil) (by simp [oneOf, typedI, *]) (by first | exact trivial | exact ⟨rfl, trivial⟩ | exact ⟨rfl, rfl, trivial⟩ | exact ⟨rfl, rfl, rfl, trivial⟩ | exact ⟨rfl, rfl, rfl, rfl, trivial⟩) rfl rfl
  refine aw_seq ?_
  refine aw_region ?_
  refine al_op rfl rfl rfl (opP_bin rfl (ev_tmp rfl) (ev_const rfl) rfl) ?_
  refine al_op rfl rfl rfl (opP_assign rfl (ev_tmp rfl)) ?_
  refine al_nil ?_
  refine aw_cond rfl (fun h9 => ?_) (fun h9 => ?_)
  · have hc : classR x.op = 11 := by simpa using h9
    have hn : (x.args.length : Int) = 2 := class_args hs hc (fun x hc => by simp [shapeI, hc])
    refine aw_seq ?_
    refine aw_region ?_
    refine al_op rfl rfl rfl (opP_load_pt rfl u73 rfl (ev_tmp rfl) rfl rfl) ?_
    refine al_call (id) rfl rfl rfl (callOf_clo rfl (ev_tmp rfl) (.cons (ev_const rfl) .nil)) (c166 f x 0 (by omega)) (by repeat' (first | refine Vw.stDOf ?_ | refine Vw.ptOf rfl rfl rfl ?_ | refine Vw.prvOf ?_ | refine Vw.cloOf ?_ | constructor)) (fun _ h => absurd h (by simp)) rfl rfl rfl (fun _ h => absurd h (by simp)) ?_
    refine al_op rfl rfl rfl (opP_bin rfl (ev_tmp rfl) (ev_const rfl) rfl) ?_
    refine al_op rfl rfl rfl (opP_move rfl (ev_tmp rfl)) ?_
    refine al_opg rfl rfl rfl rfl rfl rfl (opP_load_pt rfl u73 rfl (ev_tmp rfl) rfl rfl) ?_
    refine al_stepD rfl rfl (stepD_callg rfl rfl rfl rfl (callOf_clo rfl (ev_when rfl id) (.cons (ev_const rfl) .nil)) (fun gd => c166 f x 1 (by omega)) (fun gd => (by repeat' (first | refine Vw.stDOf ?_ | refine Vw.ptOf rfl rfl rfl ?_ | refine Vw.prvOf ?_ | refine Vw.cloOf ?_ | constructor))) rfl (fun _ => rfl)) ?_
    refine al_stepD rfl rfl (stepD_callg rfl rfl rfl rfl (callOf_func rfl (.cons (ev_when rfl id) .nil)) (fun gd => c158 (ofI f x 1)) (fun gd => (by repeat' (first | refine Vw.stDOf ?_ | refine Vw.ptOf rfl rfl rfl ?_ | refine Vw.prvOf ?_ | refine Vw.cloOf ?_ | constructor))) rfl (fun _ => rfl)) ?_
    refine al_op rfl rfl rfl (opP_and rfl (ev_tmp rfl) (ev_when rfl id)) ?_
    refine al_op rfl rfl rfl (opP_assign rfl (ev_tmp rfl)) ?_
    refine al_nil ?_
    refine aw_ret ?_
    exact ret_id ([.v (.bool _)]) (.tmp rfl .nil) (by simp [oneOf, typedI, *]) (by first | exact trivial | exact ⟨rfl, trivial⟩ | exact ⟨rfl, rfl, trivial⟩ | exact ⟨rfl, rfl, rfl, trivial⟩ | exact ⟨rfl, rfl, rfl, rfl, trivial⟩) rfl rfl
  refine aw_seq ?_
  refine aw_region ?_
  refine al_op rfl rfl rfl (opP_bin rfl (ev_tmp rfl) (ev_const rfl) rfl) ?_
  refine al_op rfl rfl rfl (opP_assign rfl (ev_tmp rfl)) ?_
  refine al_nil ?_
  refine aw_cond rfl (fun h10 => ?_) (fun h10 => ?_)
  · have hc : classR x.op = 12 := by simpa using h10
    have hn : (x.args.length : Int) = 1 := class_args hs hc (fun x hc => by simp [shapeI, hc])
    refine aw_seq ?_
    refine aw_region ?_
    refine al_op rfl rfl rfl (opP_load_pt rfl u73 rfl (ev_tmp rfl) rfl rfl) ?_
    refine al_call (id) rfl rfl rfl (callOf_clo rfl (ev_tmp rfl) (.cons (ev_const rfl) .nil)) (c166 f x 0 (by omega)) (by repeat' (first | refine Vw.stDOf ?_ | refine Vw.ptOf rfl rfl rfl ?_ | refine Vw.prvOf ?_ | refine Vw.cloOf ?_ | constructor)) (fun _ h => absurd h (by simp)) rfl rfl rfl (fun _ h => absurd h (by simp)) ?_
    refine al_op rfl rfl rfl (opP_bin rfl (ev_tmp rfl) (ev_const rfl) rfl) ?_
    refine al_op rfl rfl rfl (opP_assign rfl (ev_tmp rfl)) ?_
    refine al_nil ?_
    refine aw_ret ?_
    exact ret_id ([.v (.bool _)]) (.tmp rfl .nil) (by simp [oneOf, typedI, *]) (by first | exact trivial | exact ⟨rfl, trivial⟩ | exact ⟨rfl, rfl, trivial⟩ | exact ⟨rfl, rfl, rfl, trivial⟩ | exact ⟨rfl, rfl, rfl, rfl, trivial⟩) rfl rfl
  refine aw_seq ?_
  refine aw_region ?_
  refine al_op rfl rfl rfl (opP_bin rfl (ev_tmp rfl) (ev_const rfl) rfl) ?_
  refine al_op rfl rfl rfl (opP_assign rfl (ev_tmp rfl)) ?_
  refine al_nil ?_
  refine aw_cond rfl (fun h11 => ?_) (fun h11 => ?_)
  · have hc : classR x.op = 13 := by simpa using h11
    have hn : (x.args.length : Int) = 2 := class_args hs hc (fun x hc => by simp [shapeI, hc])
    refine aw_seq ?_
    refine aw_region ?_
    refine al_op rfl rfl rfl (opP_load_pt rfl u73 rfl (ev_tmp rfl) rfl rfl) ?_
    refine al_call (id) rfl rfl rfl (callOf_clo rfl (ev_tmp rfl) (.cons (ev_const rfl) .nil)) (c166 f x 0 (by omega)) (by repeat' (first | refine Vw.stDOf ?_ | refine Vw.ptOf rfl rfl rfl ?_ | refine Vw.prvOf ?_ | refine Vw.cloOf ?_ | constructor)) (fun _ h => absurd h (by simp)) rfl rfl rfl (fun _ h => absurd h (by simp)) ?_
    refine al_op rfl rfl rfl (opP_bin rfl (ev_tmp rfl) (ev_const rfl) rfl) ?_
    refine al_op rfl rfl rfl (opP_move rfl (ev_tmp rfl)) ?_
    refine al_opg rfl rfl rfl rfl rfl rfl (opP_load_pt rfl u73 rfl (ev_tmp rfl) rfl rfl) ?_
    refine al_stepD rfl rfl (stepD_callg rfl rfl rfl rfl (callOf_clo rfl (ev_when rfl id) (.cons (ev_const rfl) .nil)) (fun gd => c166 f x 1 (by omega)) (fun gd => (by repeat' (first | refine Vw.stDOf ?_ | refine Vw.ptOf rfl rfl rfl ?_ | refine Vw.prvOf ?_ | refine Vw.cloOf ?_ | constructor))) rfl (fun _ => rfl)) ?_
    refine al_stepD rfl rfl (stepD_callg rfl rfl rfl rfl (callOf_func rfl (.cons (ev_when rfl id) .nil)) (fun gd => c169 (ofI f x 1)) (fun gd => (by repeat' (first | refine Vw.stDOf ?_ | refine Vw.ptOf rfl rfl rfl ?_ | refine Vw.prvOf ?_ | refine Vw.cloOf ?_ | constructor))) rfl (fun _ => rfl)) ?_
    refine al_op rfl rfl rfl (opP_and rfl (ev_tmp rfl) (ev_when rfl id)) ?_
    refine al_op rfl rfl rfl (opP_assign rfl (ev_tmp rfl)) ?_
    refine al_nil ?_
    refine aw_ret ?_
    exact ret_id ([.v (.bool _)]) (.tmp rfl .nil) (by simp [oneOf, typedI, *]) (by first | exact trivial | exact ⟨rfl, trivial⟩ | exact ⟨rfl, rfl, trivial⟩ | exact ⟨rfl, rfl, rfl, trivial⟩ | exact ⟨rfl, rfl, rfl, rfl, trivial⟩) rfl rfl
  refine aw_seq ?_
  refine aw_region ?_
  refine al_op rfl rfl rfl (opP_bin rfl (ev_tmp rfl) (ev_const rfl) rfl) ?_
  refine al_op rfl rfl rfl (opP_assign rfl (ev_tmp rfl)) ?_
  refine al_nil ?_
  refine aw_cond rfl (fun h12 => ?_) (fun h12 => ?_)
  · have hc : classR x.op = 16 := by simpa using h12
    have hn : (x.args.length : Int) = 1 := class_args hs hc (fun x hc => by simp [shapeI, hc])
    refine aw_seq ?_
    refine aw_region ?_
    refine al_op rfl rfl rfl (opP_load_pt rfl u73 rfl (ev_tmp rfl) rfl rfl) ?_
    refine al_call (id) rfl rfl rfl (callOf_clo rfl (ev_tmp rfl) (.cons (ev_const rfl) .nil)) (c166 f x 0 (by omega)) (by repeat' (first | refine Vw.stDOf ?_ | refine Vw.ptOf rfl rfl rfl ?_ | refine Vw.prvOf ?_ | refine Vw.cloOf ?_ | constructor)) (fun _ h => absurd h (by simp)) rfl rfl rfl (fun _ h => absurd h (by simp)) ?_
    refine al_op rfl rfl rfl (opP_bin rfl (ev_tmp rfl) (ev_const rfl) rfl) ?_
    refine al_op rfl rfl rfl (opP_assign rfl (ev_tmp rfl)) ?_
    refine al_nil ?_
    refine aw_ret ?_
    exact ret_id ([.v (.bool _)]) (.tmp rfl .nil) (by simp [oneOf, typedI, *]) (by first | exact trivial | exact ⟨rfl, trivial⟩ | exact ⟨rfl, rfl, trivial⟩ | exact ⟨rfl, rfl, rfl, trivial⟩ | exact ⟨rfl, rfl, rfl, rfl, trivial⟩) rfl rfl
  refine aw_seq ?_
  refine aw_region ?_
  refine al_op rfl rfl rfl (opP_bin rfl (ev_tmp rfl) (ev_const rfl) rfl) ?_
  refine al_op rfl rfl rfl (opP_assign rfl (ev_tmp rfl)) ?_
  refine al_nil ?_
  refine aw_condS rfl (fun h13 => ?_) (fun h13 => ?_)
  · refine aw_skip ?_
    refine aw_seq ?_
    refine aw_region ?_
    refine al_op rfl rfl rfl (opP_assign rfl (ev_const rfl)) ?_
    refine al_nil ?_
    refine aw_ret ?_
    exact ret_id ([.v (.bool _)]) (.tmp rfl .nil) (by simp [oneOf, typedI, *]) (by first | exact trivial | exact ⟨rfl, trivial⟩ | exact ⟨rfl, rfl, trivial⟩ | exact ⟨rfl, rfl, rfl, trivial⟩ | exact ⟨rfl, rfl, rfl, rfl, trivial⟩) rfl rfl
  refine aw_seq ?_
  refine aw_region ?_
  refine al_op rfl rfl rfl (opP_move rfl (ev_tmp rfl)) ?_
  refine al_op rfl rfl rfl (opP_fieldAddr rfl (ev_tmp rfl) u27 rfl rfl s3 rfl) ?_
  refine al_op rfl rfl rfl (opP_load_pt rfl u3 rfl (ev_tmp rfl) rfl rfl) ?_
  refine al_call (id) rfl rfl rfl (callOf_clo rfl (ev_tmp rfl) (.cons (ev_tmp rfl) .nil)) (c167 f x f.ret hx) (by repeat' (first | refine Vw.stDOf ?_ | refine Vw.ptOf rfl rfl rfl ?_ | refine Vw.prvOf ?_ | refine Vw.cloOf ?_ | constructor)) (fun _ h => absurd h (by simp)) rfl rfl rfl (fun _ h => absurd h (by simp)) ?_
  refine al_op rfl rfl rfl (opP_assign rfl (ev_tmp rfl)) ?_
  refine al_nil ?_
  refine aw_ret ?_
  exact ret_id ([.v (.bool _)]) (.tmp rfl .nil) (by simp [oneOf, typedI, *]) (by first | exact trivial | exact ⟨rfl, trivial⟩ | exact ⟨rfl, rfl, trivial⟩ | exact ⟨rfl, rfl, rfl, trivial⟩ | exact ⟨rfl, rfl, rfl, rfl, trivial⟩) rfl rfl
end Go.AL
namespace Go.AL
theorem clear_zero (a b : Int) : (clearN a b == 0) = decide (BitVec.ofInt 64 a &&& ~~~(BitVec.ofInt 64 b) = 0#64) := by
  rw [Bool.eq_iff_iff, beq_iff_eq, decide_eq_true_iff]
  unfold clearN
  show IntKind.i64.wrap ((BitVec.ofInt 64 a &&& ~~~(BitVec.ofInt 64 b)).toNat : Int) = 0 ↔ _
  generalize BitVec.ofInt 64 a &&& ~~~(BitVec.ofInt 64 b) = v
  have hv := v.isLt
  rw [IntKind.wrap_i64, ← BitVec.toNat_inj]
  simp only [BitVec.toNat_ofNat]
  omega
theorem ofInt_eq {a : Int} (h : I64 a) (n : Nat) (hn : n < 1000) : BitVec.ofInt 64 a = BitVec.ofNat 64 n ↔ a = n := by
  rw [← BitVec.toNat_inj, BitVec.toNat_ofInt, BitVec.toNat_ofNat]
  simp only [I64] at h
  have e : ((2 ^ 64 : Nat) : Int) = 18446744073709551616 := rfl
  rw [e]
  omega
theorem clear0 {a : Int} (h : I64 a) : (clearN a 0 == 0) = (a == 0) := by
  rw [clear_zero]
  have : BitVec.ofInt 64 a &&& ~~~(BitVec.ofInt 64 0) = BitVec.ofInt 64 a := by
    rw [show ~~~(BitVec.ofInt 64 0) = BitVec.allOnes 64 from by decide, BitVec.and_allOnes]
  rw [this, Bool.eq_iff_iff, decide_eq_true_iff, beq_iff_eq]
  exact ofInt_eq h 0 (by omega)
theorem clear_bit {a : Int} (h : I64 a) (k : Nat) (hk : k < 5) (hb : ∀ j : Fin 64, (BitVec.ofNat 64 (2 ^ k)).getLsbD j = decide (j.val = k)) : (clearN a ((2 ^ k : Nat) : Int) == 0) = (a == 0 || a == ((2 ^ k : Nat) : Int)) := by
  have hp : 2 ^ k < 1000 := by
    have : 2 ^ k ≤ 2 ^ 4 := Nat.pow_le_pow_right (by omega) (by omega)
    omega
  rw [clear_zero]
  have e : BitVec.ofInt 64 ((2 ^ k : Nat) : Int) = BitVec.ofNat 64 (2 ^ k) := by
    generalize 2 ^ k = p at hp
    exact (ofInt_eq (a := (p : Int)) ⟨by omega, by omega⟩ _ hp).2 rfl
  rw [e, Bool.eq_iff_iff, decide_eq_true_iff, Bool.or_eq_true, beq_iff_eq, beq_iff_eq, ← ofInt_eq h (2 ^ k) hp]
  have e0 : a = 0 ↔ BitVec.ofInt 64 a = 0#64 := (ofInt_eq h 0 (by omega)).symm
  rw [e0]
  generalize BitVec.ofInt 64 a = v
  constructor
  · intro hv
    have bit : ∀ j : Nat, j < 64 → j ≠ k → v.getLsbD j = false := fun j hj hne => by
      have := congrArg (fun x => x.getLsbD j) hv
      simp only [BitVec.getLsbD_and, BitVec.getLsbD_not, hb ⟨j, hj⟩, decide_eq_false hne, hj, decide_true, Bool.not_false, Bool.and_true, Bool.true_and, BitVec.getLsbD_zero] at this
      exact this
    cases hvk : v.getLsbD k with
    | false =>
      left
      apply BitVec.eq_of_getLsbD_eq
      intro j hj
      by_cases ej : j = k
      · subst ej; rw [hvk]; simp
      · rw [bit j hj ej]; simp
    | true =>
      right
      apply BitVec.eq_of_getLsbD_eq
      intro j hj
      rw [hb ⟨j, hj⟩]
      by_cases ej : j = k
      · subst ej; rw [hvk]; simp
      · rw [bit j hj ej]; simp [ej]
  · rintro (rfl | rfl) <;> simp
theorem clear4 {a : Int} (h : I64 a) : (clearN a 4 == 0) = (a == 0 || a == 4) := clear_bit h 2 (by omega) (by decide)
theorem clear8 {a : Int} (h : I64 a) : (clearN a 8 == 0) = (a == 0 || a == 8) := clear_bit h 3 (by omega) (by decide)
theorem clear3 {a : Int} (h : I64 a) : (clearN a 3 == 0) = (decide (a ≥ 0) && decide (a ≤ 3)) := by
  rw [clear_zero]
  have hb : ∀ j : Fin 64, (3#64).getLsbD j = decide (j.val < 2) := by decide
  have e : BitVec.ofInt 64 3 = 3#64 := rfl
  have e1 : (decide (a ≥ 0) && decide (a ≤ 3)) = decide ((BitVec.ofInt 64 a).toNat < 2 ^ 2) := by
    rw [BitVec.toNat_ofInt]
    simp only [I64] at h
    rw [Bool.eq_iff_iff]
    simp only [Bool.and_eq_true, decide_eq_true_eq]
    have e : ((2 ^ 64 : Nat) : Int) = 18446744073709551616 := rfl
    rw [e]
    omega
  rw [e, e1, Bool.eq_iff_iff, decide_eq_true_iff, decide_eq_true_iff]
  generalize BitVec.ofInt 64 a = v
  constructor
  · intro hv
    refine Nat.lt_pow_two_of_testBit _ fun j hj => ?_
    by_cases h64 : j < 64
    · have := congrArg (fun x => x.getLsbD j) hv
      simp only [BitVec.getLsbD_and, BitVec.getLsbD_not, hb ⟨j, h64⟩, decide_eq_false (show ¬ j < 2 by omega), h64, decide_true, Bool.not_false, Bool.and_true, Bool.true_and, BitVec.getLsbD_zero] at this
      exact this
    · exact Nat.testBit_lt_two_pow (Nat.lt_of_lt_of_le v.isLt (Nat.pow_le_pow_right (by omega) (by omega)))
  · intro hv
    apply BitVec.eq_of_getLsbD_eq
    intro j hj
    simp only [BitVec.getLsbD_and, BitVec.getLsbD_not, hb ⟨j, hj⟩, hj, decide_true, Bool.true_and, BitVec.getLsbD_zero]
    by_cases h2 : j < 2
    · simp [h2]
    · have : v.getLsbD j = false := Nat.testBit_lt_two_pow (Nat.lt_of_lt_of_le hv (Nat.pow_le_pow_right (by omega) (by omega)))
      simp [this]
theorem mask_law (n y : Int) : (maskE n == 0 && decide (y ≤ maskV n)) = isWordR n y := by
  unfold maskE maskV isWordR
  cases isW n with
  | true =>
    simp only [if_true, Bool.true_and, beq_self_eq_true]
    rw [decide_eq_decide]; omega
  | false => simp
theorem word_w {n y : Int} (h : isWordR n y = true) : isW n = true := by
  unfold isWordR at h
  rw [Bool.and_eq_true] at h; exact h.1
theorem nz_eq (b c : Int) : (clearN b c != 0) = !(clearN b c == 0) := rfl
theorem shaped_0 {f : Fn} {x : Inst} (hr : 0 ≤ f.ret) (hx : x.Fits) (h : x.op = 0) : shapedI f x = argumentR f x := by
  have hc : classR x.op = 1 := by rw [h]; rfl
  have hs : shapeI f x = (0, 0, maskE x.w == 0 && decide (x.imm ≤ maskV x.w)) := by simp [shapeI, hc]
  have ht : shapeR f x = (0, 0, isW x.w && x.fl == 0 && isWordR x.w x.imm) := by simp [shapeR, h]
  have hk : flagsR x.op = 0 := by rw [h]; rfl
  unfold shapedI argumentR countBad
  rw [hs, ht, hk, nz_eq, clear0 hx.fl]
  simp only [h]
  have hw := @word_w x.w x.imm
  rw [mask_law]
  grind
theorem shaped_1 {f : Fn} {x : Inst} (hr : 0 ≤ f.ret) (hx : x.Fits) (h : x.op = 1) : shapedI f x = argumentR f x := by
  have hc : classR x.op = 2 := by rw [h]; rfl
  have hs : shapeI f x = (2, 0, isW x.w && x.imm == 0) := by simp [shapeI, hc]
  have ht : shapeR f x = (2, 0, isW x.w && x.imm == 0 && arithR x) := by simp [shapeR, h]
  have hk : flagsR x.op = 3 := by rw [h]; rfl
  have ha : arithR x = (decide (x.fl ≥ 0) && decide (x.fl ≤ 3)) := by simp [arithR, h]
  unfold shapedI argumentR countBad
  rw [hs, ht, hk, nz_eq, clear3 hx.fl]
  simp only [h, ha]
  grind
theorem shaped_2 {f : Fn} {x : Inst} (hr : 0 ≤ f.ret) (hx : x.Fits) (h : x.op = 2) : shapedI f x = argumentR f x := by
  have hc : classR x.op = 2 := by rw [h]; rfl
  have hs : shapeI f x = (2, 0, isW x.w && x.imm == 0) := by simp [shapeI, hc]
  have ht : shapeR f x = (2, 0, isW x.w && x.imm == 0 && arithR x) := by simp [shapeR, h]
  have hk : flagsR x.op = 3 := by rw [h]; rfl
  have ha : arithR x = (decide (x.fl ≥ 0) && decide (x.fl ≤ 3)) := by simp [arithR, h]
  unfold shapedI argumentR countBad
  rw [hs, ht, hk, nz_eq, clear3 hx.fl]
  simp only [h, ha]
  grind
theorem shaped_3 {f : Fn} {x : Inst} (hr : 0 ≤ f.ret) (hx : x.Fits) (h : x.op = 3) : shapedI f x = argumentR f x := by
  have hc : classR x.op = 2 := by rw [h]; rfl
  have hs : shapeI f x = (2, 0, isW x.w && x.imm == 0) := by simp [shapeI, hc]
  have ht : shapeR f x = (2, 0, isW x.w && x.imm == 0 && arithR x) := by simp [shapeR, h]
  have hk : flagsR x.op = 3 := by rw [h]; rfl
  have ha : arithR x = (decide (x.fl ≥ 0) && decide (x.fl ≤ 3)) := by simp [arithR, h]
  unfold shapedI argumentR countBad
  rw [hs, ht, hk, nz_eq, clear3 hx.fl]
  simp only [h, ha]
  grind
theorem shaped_4 {f : Fn} {x : Inst} (hr : 0 ≤ f.ret) (hx : x.Fits) (h : x.op = 4) : shapedI f x = argumentR f x := by
  have hc : classR x.op = 2 := by rw [h]; rfl
  have hs : shapeI f x = (2, 0, isW x.w && x.imm == 0) := by simp [shapeI, hc]
  have ht : shapeR f x = (2, 0, isW x.w && x.imm == 0 && arithR x) := by simp [shapeR, h]
  have hk : flagsR x.op = 4 := by rw [h]; rfl
  have ha : arithR x = (x.fl == 0 || x.fl == 4) := by simp [arithR, h]
  unfold shapedI argumentR countBad
  rw [hs, ht, hk, nz_eq, clear4 hx.fl]
  simp only [h, ha]
  grind
theorem shaped_5 {f : Fn} {x : Inst} (hr : 0 ≤ f.ret) (hx : x.Fits) (h : x.op = 5) : shapedI f x = argumentR f x := by
  have hc : classR x.op = 2 := by rw [h]; rfl
  have hs : shapeI f x = (2, 0, isW x.w && x.imm == 0) := by simp [shapeI, hc]
  have ht : shapeR f x = (2, 0, isW x.w && x.imm == 0 && arithR x) := by simp [shapeR, h]
  have hk : flagsR x.op = 0 := by rw [h]; rfl
  have ha : arithR x = (x.fl == 0) := by simp [arithR, h]
  unfold shapedI argumentR countBad
  rw [hs, ht, hk, nz_eq, clear0 hx.fl]
  simp only [h, ha]
  grind
theorem shaped_6 {f : Fn} {x : Inst} (hr : 0 ≤ f.ret) (hx : x.Fits) (h : x.op = 6) : shapedI f x = argumentR f x := by
  have hc : classR x.op = 2 := by rw [h]; rfl
  have hs : shapeI f x = (2, 0, isW x.w && x.imm == 0) := by simp [shapeI, hc]
  have ht : shapeR f x = (2, 0, isW x.w && x.imm == 0 && arithR x) := by simp [shapeR, h]
  have hk : flagsR x.op = 4 := by rw [h]; rfl
  have ha : arithR x = (x.fl == 0 || x.fl == 4) := by simp [arithR, h]
  unfold shapedI argumentR countBad
  rw [hs, ht, hk, nz_eq, clear4 hx.fl]
  simp only [h, ha]
  grind
theorem shaped_7 {f : Fn} {x : Inst} (hr : 0 ≤ f.ret) (hx : x.Fits) (h : x.op = 7) : shapedI f x = argumentR f x := by
  have hc : classR x.op = 2 := by rw [h]; rfl
  have hs : shapeI f x = (2, 0, isW x.w && x.imm == 0) := by simp [shapeI, hc]
  have ht : shapeR f x = (2, 0, isW x.w && x.imm == 0 && arithR x) := by simp [shapeR, h]
  have hk : flagsR x.op = 0 := by rw [h]; rfl
  have ha : arithR x = (x.fl == 0) := by simp [arithR, h]
  unfold shapedI argumentR countBad
  rw [hs, ht, hk, nz_eq, clear0 hx.fl]
  simp only [h, ha]
  grind
theorem shaped_8 {f : Fn} {x : Inst} (hr : 0 ≤ f.ret) (hx : x.Fits) (h : x.op = 8) : shapedI f x = argumentR f x := by
  have hc : classR x.op = 2 := by rw [h]; rfl
  have hs : shapeI f x = (2, 0, isW x.w && x.imm == 0) := by simp [shapeI, hc]
  have ht : shapeR f x = (2, 0, isW x.w && x.imm == 0 && arithR x) := by simp [shapeR, h]
  have hk : flagsR x.op = 0 := by rw [h]; rfl
  have ha : arithR x = (x.fl == 0) := by simp [arithR, h]
  unfold shapedI argumentR countBad
  rw [hs, ht, hk, nz_eq, clear0 hx.fl]
  simp only [h, ha]
  grind
theorem shaped_9 {f : Fn} {x : Inst} (hr : 0 ≤ f.ret) (hx : x.Fits) (h : x.op = 9) : shapedI f x = argumentR f x := by
  have hc : classR x.op = 2 := by rw [h]; rfl
  have hs : shapeI f x = (2, 0, isW x.w && x.imm == 0) := by simp [shapeI, hc]
  have ht : shapeR f x = (2, 0, isW x.w && x.imm == 0 && arithR x) := by simp [shapeR, h]
  have hk : flagsR x.op = 0 := by rw [h]; rfl
  have ha : arithR x = (x.fl == 0) := by simp [arithR, h]
  unfold shapedI argumentR countBad
  rw [hs, ht, hk, nz_eq, clear0 hx.fl]
  simp only [h, ha]
  grind
theorem shaped_10 {f : Fn} {x : Inst} (hr : 0 ≤ f.ret) (hx : x.Fits) (h : x.op = 10) : shapedI f x = argumentR f x := by
  have hc : classR x.op = 2 := by rw [h]; rfl
  have hs : shapeI f x = (2, 0, isW x.w && x.imm == 0) := by simp [shapeI, hc]
  have ht : shapeR f x = (2, 0, isW x.w && x.imm == 0 && arithR x) := by simp [shapeR, h]
  have hk : flagsR x.op = 0 := by rw [h]; rfl
  have ha : arithR x = (x.fl == 0) := by simp [arithR, h]
  unfold shapedI argumentR countBad
  rw [hs, ht, hk, nz_eq, clear0 hx.fl]
  simp only [h, ha]
  grind
theorem shaped_11 {f : Fn} {x : Inst} (hr : 0 ≤ f.ret) (hx : x.Fits) (h : x.op = 11) : shapedI f x = argumentR f x := by
  have hc : classR x.op = 2 := by rw [h]; rfl
  have hs : shapeI f x = (2, 0, isW x.w && x.imm == 0) := by simp [shapeI, hc]
  have ht : shapeR f x = (2, 0, isW x.w && x.imm == 0 && arithR x) := by simp [shapeR, h]
  have hk : flagsR x.op = 3 := by rw [h]; rfl
  have ha : arithR x = (decide (x.fl ≥ 0) && decide (x.fl ≤ 3)) := by simp [arithR, h]
  unfold shapedI argumentR countBad
  rw [hs, ht, hk, nz_eq, clear3 hx.fl]
  simp only [h, ha]
  grind
theorem shaped_12 {f : Fn} {x : Inst} (hr : 0 ≤ f.ret) (hx : x.Fits) (h : x.op = 12) : shapedI f x = argumentR f x := by
  have hc : classR x.op = 2 := by rw [h]; rfl
  have hs : shapeI f x = (2, 0, isW x.w && x.imm == 0) := by simp [shapeI, hc]
  have ht : shapeR f x = (2, 0, isW x.w && x.imm == 0 && arithR x) := by simp [shapeR, h]
  have hk : flagsR x.op = 4 := by rw [h]; rfl
  have ha : arithR x = (x.fl == 0 || x.fl == 4) := by simp [arithR, h]
  unfold shapedI argumentR countBad
  rw [hs, ht, hk, nz_eq, clear4 hx.fl]
  simp only [h, ha]
  grind
theorem shaped_13 {f : Fn} {x : Inst} (hr : 0 ≤ f.ret) (hx : x.Fits) (h : x.op = 13) : shapedI f x = argumentR f x := by
  have hc : classR x.op = 2 := by rw [h]; rfl
  have hs : shapeI f x = (2, 0, isW x.w && x.imm == 0) := by simp [shapeI, hc]
  have ht : shapeR f x = (2, 0, isW x.w && x.imm == 0 && arithR x) := by simp [shapeR, h]
  have hk : flagsR x.op = 4 := by rw [h]; rfl
  have ha : arithR x = (x.fl == 0 || x.fl == 4) := by simp [arithR, h]
  unfold shapedI argumentR countBad
  rw [hs, ht, hk, nz_eq, clear4 hx.fl]
  simp only [h, ha]
  grind
theorem shaped_14 {f : Fn} {x : Inst} (hr : 0 ≤ f.ret) (hx : x.Fits) (h : x.op = 14) : shapedI f x = argumentR f x := by
  have hc : classR x.op = 3 := by rw [h]; rfl
  have hs : shapeI f x = (2, 0, x.w == 1 && decide (x.imm ≤ 9)) := by simp [shapeI, hc]
  have ht : shapeR f x = (2, 0, x.w == 1 && x.fl == 0 && decide (x.imm ≤ 9)) := by simp [shapeR, h]
  have hk : flagsR x.op = 0 := by rw [h]; rfl
  unfold shapedI argumentR countBad
  rw [hs, ht, hk, nz_eq, clear0 hx.fl]
  simp only [h]
  grind
theorem shaped_15 {f : Fn} {x : Inst} (hr : 0 ≤ f.ret) (hx : x.Fits) (h : x.op = 15) : shapedI f x = argumentR f x := by
  have hc : classR x.op = 4 := by rw [h]; rfl
  have hs : shapeI f x = (3, 0, (isW x.w || x.w == 33) && x.imm == 0) := by simp [shapeI, hc]
  have ht : shapeR f x = (3, 0, (isW x.w || x.w == 33) && plainR x) := by simp [shapeR, h]
  have hk : flagsR x.op = 0 := by rw [h]; rfl
  unfold shapedI argumentR countBad
  rw [hs, ht, hk, nz_eq, clear0 hx.fl]
  simp only [h, plainR]
  grind
theorem shaped_16 {f : Fn} {x : Inst} (hr : 0 ≤ f.ret) (hx : x.Fits) (h : x.op = 16) : shapedI f x = argumentR f x := by
  have hc : classR x.op = 5 := by rw [h]; rfl
  have hs : shapeI f x = (1, 0, isW x.w && x.imm == 0) := by simp [shapeI, hc]
  have ht : shapeR f x = (1, 0, isW x.w && plainR x) := by simp [shapeR, h]
  have hk : flagsR x.op = 0 := by rw [h]; rfl
  unfold shapedI argumentR countBad
  rw [hs, ht, hk, nz_eq, clear0 hx.fl]
  simp only [h, plainR]
  grind
theorem shaped_17 {f : Fn} {x : Inst} (hr : 0 ≤ f.ret) (hx : x.Fits) (h : x.op = 17) : shapedI f x = argumentR f x := by
  have hc : classR x.op = 5 := by rw [h]; rfl
  have hs : shapeI f x = (1, 0, isW x.w && x.imm == 0) := by simp [shapeI, hc]
  have ht : shapeR f x = (1, 0, isW x.w && plainR x) := by simp [shapeR, h]
  have hk : flagsR x.op = 0 := by rw [h]; rfl
  unfold shapedI argumentR countBad
  rw [hs, ht, hk, nz_eq, clear0 hx.fl]
  simp only [h, plainR]
  grind
theorem shaped_18 {f : Fn} {x : Inst} (hr : 0 ≤ f.ret) (hx : x.Fits) (h : x.op = 18) : shapedI f x = argumentR f x := by
  have hc : classR x.op = 6 := by rw [h]; rfl
  have hs : shapeI f x = (1, 0, isW x.w && x.imm == 0) := by simp [shapeI, hc]
  have ht : shapeR f x = (1, 0, isW x.w && plainR x) := by simp [shapeR, h]
  have hk : flagsR x.op = 0 := by rw [h]; rfl
  unfold shapedI argumentR countBad
  rw [hs, ht, hk, nz_eq, clear0 hx.fl]
  simp only [h, plainR]
  grind
theorem shaped_19 {f : Fn} {x : Inst} (hr : 0 ≤ f.ret) (hx : x.Fits) (h : x.op = 19) : shapedI f x = argumentR f x := by
  have hc : classR x.op = 7 := by rw [h]; rfl
  have hs : shapeI f x = (2, 0, isW x.w && decide (x.imm ≥ 1) && decide (x.imm < x.w) && x.w.tmod x.imm == 0) := by simp [shapeI, hc]
  have ht : shapeR f x = (2, 0, isW x.w && x.fl == 0 && decide (x.imm ≥ 1) && decide (x.imm < x.w) && x.w.tmod x.imm == 0) := by simp [shapeR, h]
  have hk : flagsR x.op = 0 := by rw [h]; rfl
  unfold shapedI argumentR countBad
  rw [hs, ht, hk, nz_eq, clear0 hx.fl]
  simp only [h]
  grind
theorem shaped_20 {f : Fn} {x : Inst} (hr : 0 ≤ f.ret) (hx : x.Fits) (h : x.op = 20) : shapedI f x = argumentR f x := by
  have hc : classR x.op = 7 := by rw [h]; rfl
  have hs : shapeI f x = (2, 0, isW x.w && decide (x.imm ≥ 1) && decide (x.imm < x.w) && x.w.tmod x.imm == 0) := by simp [shapeI, hc]
  have ht : shapeR f x = (2, 0, isW x.w && x.fl == 0 && decide (x.imm ≥ 1) && decide (x.imm < x.w) && x.w.tmod x.imm == 0) := by simp [shapeR, h]
  have hk : flagsR x.op = 0 := by rw [h]; rfl
  unfold shapedI argumentR countBad
  rw [hs, ht, hk, nz_eq, clear0 hx.fl]
  simp only [h]
  grind
theorem shaped_21 {f : Fn} {x : Inst} (hr : 0 ≤ f.ret) (hx : x.Fits) (h : x.op = 21) : shapedI f x = argumentR f x := by
  have hc : classR x.op = 8 := by rw [h]; rfl
  have hs : shapeI f x = (1, 0, isW x.w && x.imm == 0) := by simp [shapeI, hc]
  have ht : shapeR f x = (1, 0, isW x.w && plainR x) := by simp [shapeR, h]
  have hk : flagsR x.op = 0 := by rw [h]; rfl
  unfold shapedI argumentR countBad
  rw [hs, ht, hk, nz_eq, clear0 hx.fl]
  simp only [h, plainR]
  grind
theorem shaped_22 {f : Fn} {x : Inst} (hr : 0 ≤ f.ret) (hx : x.Fits) (h : x.op = 22) : shapedI f x = argumentR f x := by
  have hc : classR x.op = 9 := by rw [h]; rfl
  have hs : shapeI f x = (0, 0, isW x.w && x.imm == 0) := by simp [shapeI, hc]
  have ht : shapeR f x = (0, 0, isW x.w && plainR x) := by simp [shapeR, h]
  have hk : flagsR x.op = 0 := by rw [h]; rfl
  unfold shapedI argumentR countBad
  rw [hs, ht, hk, nz_eq, clear0 hx.fl]
  simp only [h, plainR]
  grind
theorem shaped_23 {f : Fn} {x : Inst} (hr : 0 ≤ f.ret) (hx : x.Fits) (h : x.op = 23) : shapedI f x = argumentR f x := by
  have hc : classR x.op = 9 := by rw [h]; rfl
  have hs : shapeI f x = (0, 0, isW x.w && x.imm == 0) := by simp [shapeI, hc]
  have ht : shapeR f x = (0, 0, isW x.w && plainR x) := by simp [shapeR, h]
  have hk : flagsR x.op = 0 := by rw [h]; rfl
  unfold shapedI argumentR countBad
  rw [hs, ht, hk, nz_eq, clear0 hx.fl]
  simp only [h, plainR]
  grind
theorem shaped_24 {f : Fn} {x : Inst} (hr : 0 ≤ f.ret) (hx : x.Fits) (h : x.op = 24) : shapedI f x = argumentR f x := by
  have hc : classR x.op = 10 := by rw [h]; rfl
  have hs : shapeI f x = (0, 0, x.w == 33 && decide (x.imm < f.slots.length)) := by simp [shapeI, hc]
  have ht : shapeR f x = (0, 0, x.w == 33 && x.fl == 0 && decide (x.imm < f.slots.length)) := by simp [shapeR, h]
  have hk : flagsR x.op = 0 := by rw [h]; rfl
  unfold shapedI argumentR countBad
  rw [hs, ht, hk, nz_eq, clear0 hx.fl]
  simp only [h]
  grind
theorem shaped_25 {f : Fn} {x : Inst} (hr : 0 ≤ f.ret) (hx : x.Fits) (h : x.op = 25) : shapedI f x = argumentR f x := by
  have hc : classR x.op = 11 := by rw [h]; rfl
  have hs : shapeI f x = (2, 0, x.w == 33 && x.imm == 0) := by simp [shapeI, hc]
  have ht : shapeR f x = (2, 0, x.w == 33 && x.imm == 0 && (x.fl == 0 || x.fl == 8)) := by simp [shapeR, h]
  have hk : flagsR x.op = 8 := by rw [h]; rfl
  unfold shapedI argumentR countBad
  rw [hs, ht, hk, nz_eq, clear8 hx.fl]
  simp only [h]
  grind
theorem shaped_26 {f : Fn} {x : Inst} (hr : 0 ≤ f.ret) (hx : x.Fits) (h : x.op = 26) : shapedI f x = argumentR f x := by
  have hc : classR x.op = 12 := by rw [h]; rfl
  have hs : shapeI f x = (1, 0, memR x.w && x.imm == 0) := by simp [shapeI, hc]
  have ht : shapeR f x = (1, 0, (x.w == 8 || x.w == 16 || x.w == 32) && plainR x) := by simp [shapeR, h]
  have hk : flagsR x.op = 0 := by rw [h]; rfl
  unfold shapedI argumentR countBad
  rw [hs, ht, hk, nz_eq, clear0 hx.fl]
  simp only [memR, h, plainR]
  grind
theorem shaped_27 {f : Fn} {x : Inst} (hr : 0 ≤ f.ret) (hx : x.Fits) (h : x.op = 27) : shapedI f x = argumentR f x := by
  have hc : classR x.op = 13 := by rw [h]; rfl
  have hs : shapeI f x = (2, 0, x.w == 0 && x.imm == 0) := by simp [shapeI, hc]
  have ht : shapeR f x = (2, 0, x.w == 0 && plainR x) := by simp [shapeR, h]
  have hk : flagsR x.op = 0 := by rw [h]; rfl
  unfold shapedI argumentR countBad
  rw [hs, ht, hk, nz_eq, clear0 hx.fl]
  simp only [h, plainR]
  grind
theorem shaped_28 {f : Fn} {x : Inst} (hr : 0 ≤ f.ret) (hx : x.Fits) (h : x.op = 28) : shapedI f x = argumentR f x := by
  have hc : classR x.op = 14 := by rw [h]; rfl
  have hs : shapeI f x = ((x.to.length : Int), (x.to.length : Int), (isW x.w || x.w == 33) && x.imm == 0 && decide ((x.to.length : Int) > 0)) := by simp [shapeI, hc]
  have ht : shapeR f x = (-1, -1, (isW x.w || x.w == 33) && plainR x && decide (0 < x.args.length)) := by simp [shapeR, h]
  have hk : flagsR x.op = 0 := by rw [h]; rfl
  unfold shapedI argumentR countBad
  rw [hs, ht, hk, nz_eq, clear0 hx.fl]
  simp only [h, plainR]
  grind
theorem shaped_29 {f : Fn} {x : Inst} (hr : 0 ≤ f.ret) (hx : x.Fits) (h : x.op = 29) : shapedI f x = argumentR f x := by
  have hc : classR x.op = 15 := by rw [h]; rfl
  have hs : shapeI f x = (0, 1, x.w == 0 && x.imm == 0) := by simp [shapeI, hc]
  have ht : shapeR f x = (0, 1, x.w == 0 && plainR x) := by simp [shapeR, h]
  have hk : flagsR x.op = 0 := by rw [h]; rfl
  unfold shapedI argumentR countBad
  rw [hs, ht, hk, nz_eq, clear0 hx.fl]
  simp only [h, plainR]
  grind
theorem shaped_30 {f : Fn} {x : Inst} (hr : 0 ≤ f.ret) (hx : x.Fits) (h : x.op = 30) : shapedI f x = argumentR f x := by
  have hc : classR x.op = 16 := by rw [h]; rfl
  have hs : shapeI f x = (1, 2, x.w == 0 && x.imm == 0 && ((x.to.length : Int) != 2 || x.to.getD 0 0 != x.to.getD 1 0)) := by simp [shapeI, hc]
  have ht : shapeR f x = (1, 2, x.w == 0 && plainR x) := by simp [shapeR, h]
  have hk : flagsR x.op = 0 := by rw [h]; rfl
  unfold shapedI argumentR countBad
  rw [hs, ht, hk, nz_eq, clear0 hx.fl]
  simp only [h, plainR]
  grind
theorem shaped_31 {f : Fn} {x : Inst} (hr : 0 ≤ f.ret) (hx : x.Fits) (h : x.op = 31) : shapedI f x = argumentR f x := by
  have hc : classR x.op = 17 := by rw [h]; rfl
  have hs : shapeI f x = ((if (1 : Int) < f.ret then 1 else f.ret), 0, x.w == 0 && x.imm == 0) := by simp [shapeI, hc]
  have ht : shapeR f x = ((if f.ret > 0 then 1 else 0), 0, x.w == 0 && plainR x) := by simp [shapeR, h]
  have hk : flagsR x.op = 0 := by rw [h]; rfl
  unfold shapedI argumentR countBad
  rw [hs, ht, hk, nz_eq, clear0 hx.fl]
  simp only [h, plainR]
  grind
theorem shaped_32 {f : Fn} {x : Inst} (hr : 0 ≤ f.ret) (hx : x.Fits) (h : x.op = 32) : shapedI f x = argumentR f x := by
  have hc : classR x.op = 18 := by rw [h]; rfl
  have hs : shapeI f x = (0, 0, x.w == 0 && x.imm == 0) := by simp [shapeI, hc]
  have ht : shapeR f x = (0, 0, x.w == 0 && plainR x) := by simp [shapeR, h]
  have hk : flagsR x.op = 0 := by rw [h]; rfl
  unfold shapedI argumentR countBad
  rw [hs, ht, hk, nz_eq, clear0 hx.fl]
  simp only [h, plainR]
  grind
theorem shaped_eq {f : Fn} {x : Inst} (hr : 0 ≤ f.ret) (hx : x.Fits) : shapedI f x = argumentR f x := by
  by_cases hop : 0 ≤ x.op ∧ x.op ≤ 32
  · have hc : x.op = 0 ∨ x.op = 1 ∨ x.op = 2 ∨ x.op = 3 ∨ x.op = 4 ∨ x.op = 5 ∨ x.op = 6 ∨ x.op = 7 ∨ x.op = 8 ∨ x.op = 9 ∨ x.op = 10 ∨ x.op = 11 ∨ x.op = 12 ∨ x.op = 13 ∨ x.op = 14 ∨ x.op = 15 ∨ x.op = 16 ∨ x.op = 17 ∨ x.op = 18 ∨ x.op = 19 ∨ x.op = 20 ∨ x.op = 21 ∨ x.op = 22 ∨ x.op = 23 ∨ x.op = 24 ∨ x.op = 25 ∨ x.op = 26 ∨ x.op = 27 ∨ x.op = 28 ∨ x.op = 29 ∨ x.op = 30 ∨ x.op = 31 ∨ x.op = 32 := by omega
    rcases hc with h | h | h | h | h | h | h | h | h | h | h | h | h | h | h | h | h | h | h | h | h | h | h | h | h | h | h | h | h | h | h | h | h
    · exact shaped_0 hr hx h
    · exact shaped_1 hr hx h
    · exact shaped_2 hr hx h
    · exact shaped_3 hr hx h
    · exact shaped_4 hr hx h
    · exact shaped_5 hr hx h
    · exact shaped_6 hr hx h
    · exact shaped_7 hr hx h
    · exact shaped_8 hr hx h
    · exact shaped_9 hr hx h
    · exact shaped_10 hr hx h
    · exact shaped_11 hr hx h
    · exact shaped_12 hr hx h
    · exact shaped_13 hr hx h
    · exact shaped_14 hr hx h
    · exact shaped_15 hr hx h
    · exact shaped_16 hr hx h
    · exact shaped_17 hr hx h
    · exact shaped_18 hr hx h
    · exact shaped_19 hr hx h
    · exact shaped_20 hr hx h
    · exact shaped_21 hr hx h
    · exact shaped_22 hr hx h
    · exact shaped_23 hr hx h
    · exact shaped_24 hr hx h
    · exact shaped_25 hr hx h
    · exact shaped_26 hr hx h
    · exact shaped_27 hr hx h
    · exact shaped_28 hr hx h
    · exact shaped_29 hr hx h
    · exact shaped_30 hr hx h
    · exact shaped_31 hr hx h
    · exact shaped_32 hr hx h
  · have ne : ∀ k : Int, 0 ≤ k → k ≤ 32 → (x.op == k) = false := fun k h1 h2 => by rw [beq_eq_false_iff_ne]; omega
    have nd : (decide (x.op ≥ 1) && decide (x.op ≤ 13)) = false := by
      rw [Bool.and_eq_false_iff]; simp only [decide_eq_false_iff_not]; omega
    have e1 : classR x.op = 0 := by
      simp only [classR, ne 0 (by decide) (by decide), ne 1 (by decide) (by decide), ne 2 (by decide) (by decide), ne 3 (by decide) (by decide), ne 4 (by decide) (by decide), ne 5 (by decide) (by decide), ne 6 (by decide) (by decide), ne 7 (by decide) (by decide), ne 8 (by decide) (by decide), ne 9 (by decide) (by decide), ne 10 (by decide) (by decide), ne 11 (by decide) (by decide), ne 12 (by decide) (by decide), ne 13 (by decide) (by decide), ne 14 (by decide) (by decide), ne 15 (by decide) (by decide), ne 16 (by decide) (by decide), ne 17 (by decide) (by decide), ne 18 (by decide) (by decide), ne 19 (by decide) (by decide), ne 20 (by decide) (by decide), ne 21 (by decide) (by decide), ne 22 (by decide) (by decide), ne 23 (by decide) (by decide), ne 24 (by decide) (by decide), ne 25 (by decide) (by decide), ne 26 (by decide) (by decide), ne 27 (by decide) (by decide), ne 28 (by decide) (by decide), ne 29 (by decide) (by decide), ne 30 (by decide) (by decide), ne 31 (by decide) (by decide), ne 32 (by decide) (by decide), nd, Bool.or_self, Bool.false_eq_true, if_false]
    have e2 : shapeI f x = (0, 0, false) := by simp [shapeI, e1]
    have e3 : (shapeR f x).2.2 = false := by
      simp only [shapeR, ne 0 (by decide) (by decide), ne 1 (by decide) (by decide), ne 2 (by decide) (by decide), ne 3 (by decide) (by decide), ne 4 (by decide) (by decide), ne 5 (by decide) (by decide), ne 6 (by decide) (by decide), ne 7 (by decide) (by decide), ne 8 (by decide) (by decide), ne 9 (by decide) (by decide), ne 10 (by decide) (by decide), ne 11 (by decide) (by decide), ne 12 (by decide) (by decide), ne 13 (by decide) (by decide), ne 14 (by decide) (by decide), ne 15 (by decide) (by decide), ne 16 (by decide) (by decide), ne 17 (by decide) (by decide), ne 18 (by decide) (by decide), ne 19 (by decide) (by decide), ne 20 (by decide) (by decide), ne 21 (by decide) (by decide), ne 22 (by decide) (by decide), ne 23 (by decide) (by decide), ne 24 (by decide) (by decide), ne 25 (by decide) (by decide), ne 26 (by decide) (by decide), ne 27 (by decide) (by decide), ne 28 (by decide) (by decide), ne 29 (by decide) (by decide), ne 30 (by decide) (by decide), ne 31 (by decide) (by decide), ne 32 (by decide) (by decide), nd, Bool.or_self, Bool.false_eq_true, if_false]
    simp [shapedI, argumentR, e2, e3]
end Go.AL
namespace Go.AL
theorem shaped_ok {f : Fn} {x : Inst} (h : shapedI f x = true) : (shapeI f x).2.2 = true := by
  simp only [shapedI, Bool.and_eq_true, Bool.not_eq_true', Bool.or_eq_false_iff, Bool.not_eq_false'] at h
  exact h.1.1.1.1
theorem one_of {l : List Int} (h : l.length = 1) : ∃ a, l = [a] := by
  match l, h with
  | [a], _ => exact ⟨a, rfl⟩
theorem two_of {l : List Int} (h : l.length = 2) : ∃ a b, l = [a, b] := by
  match l, h with
  | [a, b], _ => exact ⟨a, b, rfl⟩
theorem three_of {l : List Int} (h : l.length = 3) : ∃ a b c, l = [a, b, c] := by
  match l, h with
  | [a, b, c], _ => exact ⟨a, b, c, rfl⟩
theorem each_map {f : Fn} {x : Inst} {w : Int} (hw : 1 ≤ w) : eachI f x w = if (x.args.map (kindR f)).any (fun n => decide (n < 0)) then false else (x.args.map (kindR f)).all (fun n => n == w) := by
  have e : (x.args.map (kindR f)).all (fun n => n == w) = eachI f x w := by rw [List.all_map]; rfl
  rw [e]
  cases hc : (x.args.map (kindR f)).any (fun n => decide (n < 0)) with
  | false => simp
  | true =>
    rw [if_pos rfl]
    obtain ⟨k, hk, h0⟩ := List.any_eq_true.1 hc
    obtain ⟨v, hv, rfl⟩ := List.mem_map.1 hk
    refine List.all_eq_false.2 ⟨v, hv, ?_⟩
    simp only [decide_eq_true_eq] at h0
    simp only [beq_iff_eq]; omega
theorem typed_0 {f : Fn} {x : Inst} (hr : 0 ≤ f.ret ∧ f.ret ≤ 32) (hs : shapedI f x = true) (h : x.op = 0) : typedI f x = typedR f x := by
  have hc : classR x.op = 1 := by rw [h]; rfl
  have hsh : shapeI f x = (0, 0, maskE x.w == 0 && decide (x.imm ≤ maskV x.w)) := by simp [shapeI, hc]
  have hl := (shaped_args hs).1
  have hok := shaped_ok hs
  rw [hsh] at hl hok
  have e : x.args = [] := List.eq_nil_of_length_eq_zero (by have hl' : (x.args.length : Int) = 0 := hl; omega)
  simp only [isW, memR, Bool.and_eq_true, Bool.or_eq_true, decide_eq_true_eq, beq_iff_eq] at hok
  have e1 : typedI f x = true := by simp [typedI, hc]
  rw [e1]
  simp [typedR, h, eachI, ofI, e, memR, isW]
theorem typed_1 {f : Fn} {x : Inst} (hr : 0 ≤ f.ret ∧ f.ret ≤ 32) (hs : shapedI f x = true) (h : x.op = 1) : typedI f x = typedR f x := by
  have hc : classR x.op = 2 := by rw [h]; rfl
  have hsh : shapeI f x = (2, 0, isW x.w && x.imm == 0) := by simp [shapeI, hc]
  have hl := (shaped_args hs).1
  have hok := shaped_ok hs
  rw [hsh] at hl hok
  obtain ⟨a, b, e⟩ := two_of (l := x.args) (by have hl' : (x.args.length : Int) = 2 := hl; omega)
  simp only [isW, memR, Bool.and_eq_true, Bool.or_eq_true, decide_eq_true_eq, beq_iff_eq] at hok
  have e1 : typedI f x = eachI f x x.w := by simp [typedI, hc]
  rw [e1]
  simp [typedR, h, eachI, ofI, e, memR, isW]
  grind
theorem typed_2 {f : Fn} {x : Inst} (hr : 0 ≤ f.ret ∧ f.ret ≤ 32) (hs : shapedI f x = true) (h : x.op = 2) : typedI f x = typedR f x := by
  have hc : classR x.op = 2 := by rw [h]; rfl
  have hsh : shapeI f x = (2, 0, isW x.w && x.imm == 0) := by simp [shapeI, hc]
  have hl := (shaped_args hs).1
  have hok := shaped_ok hs
  rw [hsh] at hl hok
  obtain ⟨a, b, e⟩ := two_of (l := x.args) (by have hl' : (x.args.length : Int) = 2 := hl; omega)
  simp only [isW, memR, Bool.and_eq_true, Bool.or_eq_true, decide_eq_true_eq, beq_iff_eq] at hok
  have e1 : typedI f x = eachI f x x.w := by simp [typedI, hc]
  rw [e1]
  simp [typedR, h, eachI, ofI, e, memR, isW]
  grind
theorem typed_3 {f : Fn} {x : Inst} (hr : 0 ≤ f.ret ∧ f.ret ≤ 32) (hs : shapedI f x = true) (h : x.op = 3) : typedI f x = typedR f x := by
  have hc : classR x.op = 2 := by rw [h]; rfl
  have hsh : shapeI f x = (2, 0, isW x.w && x.imm == 0) := by simp [shapeI, hc]
  have hl := (shaped_args hs).1
  have hok := shaped_ok hs
  rw [hsh] at hl hok
  obtain ⟨a, b, e⟩ := two_of (l := x.args) (by have hl' : (x.args.length : Int) = 2 := hl; omega)
  simp only [isW, memR, Bool.and_eq_true, Bool.or_eq_true, decide_eq_true_eq, beq_iff_eq] at hok
  have e1 : typedI f x = eachI f x x.w := by simp [typedI, hc]
  rw [e1]
  simp [typedR, h, eachI, ofI, e, memR, isW]
  grind
theorem typed_4 {f : Fn} {x : Inst} (hr : 0 ≤ f.ret ∧ f.ret ≤ 32) (hs : shapedI f x = true) (h : x.op = 4) : typedI f x = typedR f x := by
  have hc : classR x.op = 2 := by rw [h]; rfl
  have hsh : shapeI f x = (2, 0, isW x.w && x.imm == 0) := by simp [shapeI, hc]
  have hl := (shaped_args hs).1
  have hok := shaped_ok hs
  rw [hsh] at hl hok
  obtain ⟨a, b, e⟩ := two_of (l := x.args) (by have hl' : (x.args.length : Int) = 2 := hl; omega)
  simp only [isW, memR, Bool.and_eq_true, Bool.or_eq_true, decide_eq_true_eq, beq_iff_eq] at hok
  have e1 : typedI f x = eachI f x x.w := by simp [typedI, hc]
  rw [e1]
  simp [typedR, h, eachI, ofI, e, memR, isW]
  grind
theorem typed_5 {f : Fn} {x : Inst} (hr : 0 ≤ f.ret ∧ f.ret ≤ 32) (hs : shapedI f x = true) (h : x.op = 5) : typedI f x = typedR f x := by
  have hc : classR x.op = 2 := by rw [h]; rfl
  have hsh : shapeI f x = (2, 0, isW x.w && x.imm == 0) := by simp [shapeI, hc]
  have hl := (shaped_args hs).1
  have hok := shaped_ok hs
  rw [hsh] at hl hok
  obtain ⟨a, b, e⟩ := two_of (l := x.args) (by have hl' : (x.args.length : Int) = 2 := hl; omega)
  simp only [isW, memR, Bool.and_eq_true, Bool.or_eq_true, decide_eq_true_eq, beq_iff_eq] at hok
  have e1 : typedI f x = eachI f x x.w := by simp [typedI, hc]
  rw [e1]
  simp [typedR, h, eachI, ofI, e, memR, isW]
  grind
theorem typed_6 {f : Fn} {x : Inst} (hr : 0 ≤ f.ret ∧ f.ret ≤ 32) (hs : shapedI f x = true) (h : x.op = 6) : typedI f x = typedR f x := by
  have hc : classR x.op = 2 := by rw [h]; rfl
  have hsh : shapeI f x = (2, 0, isW x.w && x.imm == 0) := by simp [shapeI, hc]
  have hl := (shaped_args hs).1
  have hok := shaped_ok hs
  rw [hsh] at hl hok
  obtain ⟨a, b, e⟩ := two_of (l := x.args) (by have hl' : (x.args.length : Int) = 2 := hl; omega)
  simp only [isW, memR, Bool.and_eq_true, Bool.or_eq_true, decide_eq_true_eq, beq_iff_eq] at hok
  have e1 : typedI f x = eachI f x x.w := by simp [typedI, hc]
  rw [e1]
  simp [typedR, h, eachI, ofI, e, memR, isW]
  grind
theorem typed_7 {f : Fn} {x : Inst} (hr : 0 ≤ f.ret ∧ f.ret ≤ 32) (hs : shapedI f x = true) (h : x.op = 7) : typedI f x = typedR f x := by
  have hc : classR x.op = 2 := by rw [h]; rfl
  have hsh : shapeI f x = (2, 0, isW x.w && x.imm == 0) := by simp [shapeI, hc]
  have hl := (shaped_args hs).1
  have hok := shaped_ok hs
  rw [hsh] at hl hok
  obtain ⟨a, b, e⟩ := two_of (l := x.args) (by have hl' : (x.args.length : Int) = 2 := hl; omega)
  simp only [isW, memR, Bool.and_eq_true, Bool.or_eq_true, decide_eq_true_eq, beq_iff_eq] at hok
  have e1 : typedI f x = eachI f x x.w := by simp [typedI, hc]
  rw [e1]
  simp [typedR, h, eachI, ofI, e, memR, isW]
  grind
theorem typed_8 {f : Fn} {x : Inst} (hr : 0 ≤ f.ret ∧ f.ret ≤ 32) (hs : shapedI f x = true) (h : x.op = 8) : typedI f x = typedR f x := by
  have hc : classR x.op = 2 := by rw [h]; rfl
  have hsh : shapeI f x = (2, 0, isW x.w && x.imm == 0) := by simp [shapeI, hc]
  have hl := (shaped_args hs).1
  have hok := shaped_ok hs
  rw [hsh] at hl hok
  obtain ⟨a, b, e⟩ := two_of (l := x.args) (by have hl' : (x.args.length : Int) = 2 := hl; omega)
  simp only [isW, memR, Bool.and_eq_true, Bool.or_eq_true, decide_eq_true_eq, beq_iff_eq] at hok
  have e1 : typedI f x = eachI f x x.w := by simp [typedI, hc]
  rw [e1]
  simp [typedR, h, eachI, ofI, e, memR, isW]
  grind
theorem typed_9 {f : Fn} {x : Inst} (hr : 0 ≤ f.ret ∧ f.ret ≤ 32) (hs : shapedI f x = true) (h : x.op = 9) : typedI f x = typedR f x := by
  have hc : classR x.op = 2 := by rw [h]; rfl
  have hsh : shapeI f x = (2, 0, isW x.w && x.imm == 0) := by simp [shapeI, hc]
  have hl := (shaped_args hs).1
  have hok := shaped_ok hs
  rw [hsh] at hl hok
  obtain ⟨a, b, e⟩ := two_of (l := x.args) (by have hl' : (x.args.length : Int) = 2 := hl; omega)
  simp only [isW, memR, Bool.and_eq_true, Bool.or_eq_true, decide_eq_true_eq, beq_iff_eq] at hok
  have e1 : typedI f x = eachI f x x.w := by simp [typedI, hc]
  rw [e1]
  simp [typedR, h, eachI, ofI, e, memR, isW]
  grind
theorem typed_10 {f : Fn} {x : Inst} (hr : 0 ≤ f.ret ∧ f.ret ≤ 32) (hs : shapedI f x = true) (h : x.op = 10) : typedI f x = typedR f x := by
  have hc : classR x.op = 2 := by rw [h]; rfl
  have hsh : shapeI f x = (2, 0, isW x.w && x.imm == 0) := by simp [shapeI, hc]
  have hl := (shaped_args hs).1
  have hok := shaped_ok hs
  rw [hsh] at hl hok
  obtain ⟨a, b, e⟩ := two_of (l := x.args) (by have hl' : (x.args.length : Int) = 2 := hl; omega)
  simp only [isW, memR, Bool.and_eq_true, Bool.or_eq_true, decide_eq_true_eq, beq_iff_eq] at hok
  have e1 : typedI f x = eachI f x x.w := by simp [typedI, hc]
  rw [e1]
  simp [typedR, h, eachI, ofI, e, memR, isW]
  grind
theorem typed_11 {f : Fn} {x : Inst} (hr : 0 ≤ f.ret ∧ f.ret ≤ 32) (hs : shapedI f x = true) (h : x.op = 11) : typedI f x = typedR f x := by
  have hc : classR x.op = 2 := by rw [h]; rfl
  have hsh : shapeI f x = (2, 0, isW x.w && x.imm == 0) := by simp [shapeI, hc]
  have hl := (shaped_args hs).1
  have hok := shaped_ok hs
  rw [hsh] at hl hok
  obtain ⟨a, b, e⟩ := two_of (l := x.args) (by have hl' : (x.args.length : Int) = 2 := hl; omega)
  simp only [isW, memR, Bool.and_eq_true, Bool.or_eq_true, decide_eq_true_eq, beq_iff_eq] at hok
  have e1 : typedI f x = eachI f x x.w := by simp [typedI, hc]
  rw [e1]
  simp [typedR, h, eachI, ofI, e, memR, isW]
  grind
theorem typed_12 {f : Fn} {x : Inst} (hr : 0 ≤ f.ret ∧ f.ret ≤ 32) (hs : shapedI f x = true) (h : x.op = 12) : typedI f x = typedR f x := by
  have hc : classR x.op = 2 := by rw [h]; rfl
  have hsh : shapeI f x = (2, 0, isW x.w && x.imm == 0) := by simp [shapeI, hc]
  have hl := (shaped_args hs).1
  have hok := shaped_ok hs
  rw [hsh] at hl hok
  obtain ⟨a, b, e⟩ := two_of (l := x.args) (by have hl' : (x.args.length : Int) = 2 := hl; omega)
  simp only [isW, memR, Bool.and_eq_true, Bool.or_eq_true, decide_eq_true_eq, beq_iff_eq] at hok
  have e1 : typedI f x = eachI f x x.w := by simp [typedI, hc]
  rw [e1]
  simp [typedR, h, eachI, ofI, e, memR, isW]
  grind
theorem typed_13 {f : Fn} {x : Inst} (hr : 0 ≤ f.ret ∧ f.ret ≤ 32) (hs : shapedI f x = true) (h : x.op = 13) : typedI f x = typedR f x := by
  have hc : classR x.op = 2 := by rw [h]; rfl
  have hsh : shapeI f x = (2, 0, isW x.w && x.imm == 0) := by simp [shapeI, hc]
  have hl := (shaped_args hs).1
  have hok := shaped_ok hs
  rw [hsh] at hl hok
  obtain ⟨a, b, e⟩ := two_of (l := x.args) (by have hl' : (x.args.length : Int) = 2 := hl; omega)
  simp only [isW, memR, Bool.and_eq_true, Bool.or_eq_true, decide_eq_true_eq, beq_iff_eq] at hok
  have e1 : typedI f x = eachI f x x.w := by simp [typedI, hc]
  rw [e1]
  simp [typedR, h, eachI, ofI, e, memR, isW]
  grind
theorem typed_14 {f : Fn} {x : Inst} (hr : 0 ≤ f.ret ∧ f.ret ≤ 32) (hs : shapedI f x = true) (h : x.op = 14) : typedI f x = typedR f x := by
  have hc : classR x.op = 3 := by rw [h]; rfl
  have hsh : shapeI f x = (2, 0, x.w == 1 && decide (x.imm ≤ 9)) := by simp [shapeI, hc]
  have hl := (shaped_args hs).1
  have hok := shaped_ok hs
  rw [hsh] at hl hok
  obtain ⟨a, b, e⟩ := two_of (l := x.args) (by have hl' : (x.args.length : Int) = 2 := hl; omega)
  simp only [isW, memR, Bool.and_eq_true, Bool.or_eq_true, decide_eq_true_eq, beq_iff_eq] at hok
  have e1 : typedI f x = (isW (ofI f x 0) && eachI f x (ofI f x 0)) := by simp [typedI, hc]
  rw [e1]
  simp [typedR, h, eachI, ofI, e, memR, isW]
  grind
theorem typed_15 {f : Fn} {x : Inst} (hr : 0 ≤ f.ret ∧ f.ret ≤ 32) (hs : shapedI f x = true) (h : x.op = 15) : typedI f x = typedR f x := by
  have hc : classR x.op = 4 := by rw [h]; rfl
  have hsh : shapeI f x = (3, 0, (isW x.w || x.w == 33) && x.imm == 0) := by simp [shapeI, hc]
  have hl := (shaped_args hs).1
  have hok := shaped_ok hs
  rw [hsh] at hl hok
  obtain ⟨a, b, c, e⟩ := three_of (l := x.args) (by have hl' : (x.args.length : Int) = 3 := hl; omega)
  simp only [isW, memR, Bool.and_eq_true, Bool.or_eq_true, decide_eq_true_eq, beq_iff_eq] at hok
  have e1 : typedI f x = (ofI f x 0 == 1 && ofI f x 1 == x.w && ofI f x 2 == x.w) := by simp [typedI, hc]
  rw [e1]
  simp [typedR, h, eachI, ofI, e, memR, isW]
  grind
theorem typed_16 {f : Fn} {x : Inst} (hr : 0 ≤ f.ret ∧ f.ret ≤ 32) (hs : shapedI f x = true) (h : x.op = 16) : typedI f x = typedR f x := by
  have hc : classR x.op = 5 := by rw [h]; rfl
  have hsh : shapeI f x = (1, 0, isW x.w && x.imm == 0) := by simp [shapeI, hc]
  have hl := (shaped_args hs).1
  have hok := shaped_ok hs
  rw [hsh] at hl hok
  obtain ⟨a, e⟩ := one_of (l := x.args) (by have hl' : (x.args.length : Int) = 1 := hl; omega)
  simp only [isW, memR, Bool.and_eq_true, Bool.or_eq_true, decide_eq_true_eq, beq_iff_eq] at hok
  have e1 : typedI f x = (isW (ofI f x 0) && decide (ofI f x 0 < x.w)) := by simp [typedI, hc]
  rw [e1]
  simp [typedR, h, eachI, ofI, e, memR, isW]
  grind
theorem typed_17 {f : Fn} {x : Inst} (hr : 0 ≤ f.ret ∧ f.ret ≤ 32) (hs : shapedI f x = true) (h : x.op = 17) : typedI f x = typedR f x := by
  have hc : classR x.op = 5 := by rw [h]; rfl
  have hsh : shapeI f x = (1, 0, isW x.w && x.imm == 0) := by simp [shapeI, hc]
  have hl := (shaped_args hs).1
  have hok := shaped_ok hs
  rw [hsh] at hl hok
  obtain ⟨a, e⟩ := one_of (l := x.args) (by have hl' : (x.args.length : Int) = 1 := hl; omega)
  simp only [isW, memR, Bool.and_eq_true, Bool.or_eq_true, decide_eq_true_eq, beq_iff_eq] at hok
  have e1 : typedI f x = (isW (ofI f x 0) && decide (ofI f x 0 < x.w)) := by simp [typedI, hc]
  rw [e1]
  simp [typedR, h, eachI, ofI, e, memR, isW]
  grind
theorem typed_18 {f : Fn} {x : Inst} (hr : 0 ≤ f.ret ∧ f.ret ≤ 32) (hs : shapedI f x = true) (h : x.op = 18) : typedI f x = typedR f x := by
  have hc : classR x.op = 6 := by rw [h]; rfl
  have hsh : shapeI f x = (1, 0, isW x.w && x.imm == 0) := by simp [shapeI, hc]
  have hl := (shaped_args hs).1
  have hok := shaped_ok hs
  rw [hsh] at hl hok
  obtain ⟨a, e⟩ := one_of (l := x.args) (by have hl' : (x.args.length : Int) = 1 := hl; omega)
  simp only [isW, memR, Bool.and_eq_true, Bool.or_eq_true, decide_eq_true_eq, beq_iff_eq] at hok
  have e1 : typedI f x = (isW (ofI f x 0) && decide (ofI f x 0 > x.w)) := by simp [typedI, hc]
  rw [e1]
  simp [typedR, h, eachI, ofI, e, memR, isW]
  grind
theorem typed_19 {f : Fn} {x : Inst} (hr : 0 ≤ f.ret ∧ f.ret ≤ 32) (hs : shapedI f x = true) (h : x.op = 19) : typedI f x = typedR f x := by
  have hc : classR x.op = 7 := by rw [h]; rfl
  have hsh : shapeI f x = (2, 0, isW x.w && decide (x.imm ≥ 1) && decide (x.imm < x.w) && x.w.tmod x.imm == 0) := by simp [shapeI, hc]
  have hl := (shaped_args hs).1
  have hok := shaped_ok hs
  rw [hsh] at hl hok
  obtain ⟨a, b, e⟩ := two_of (l := x.args) (by have hl' : (x.args.length : Int) = 2 := hl; omega)
  simp only [isW, memR, Bool.and_eq_true, Bool.or_eq_true, decide_eq_true_eq, beq_iff_eq] at hok
  have e1 : typedI f x = eachI f x x.w := by simp [typedI, hc]
  rw [e1]
  simp [typedR, h, eachI, ofI, e, memR, isW]
  grind
theorem typed_20 {f : Fn} {x : Inst} (hr : 0 ≤ f.ret ∧ f.ret ≤ 32) (hs : shapedI f x = true) (h : x.op = 20) : typedI f x = typedR f x := by
  have hc : classR x.op = 7 := by rw [h]; rfl
  have hsh : shapeI f x = (2, 0, isW x.w && decide (x.imm ≥ 1) && decide (x.imm < x.w) && x.w.tmod x.imm == 0) := by simp [shapeI, hc]
  have hl := (shaped_args hs).1
  have hok := shaped_ok hs
  rw [hsh] at hl hok
  obtain ⟨a, b, e⟩ := two_of (l := x.args) (by have hl' : (x.args.length : Int) = 2 := hl; omega)
  simp only [isW, memR, Bool.and_eq_true, Bool.or_eq_true, decide_eq_true_eq, beq_iff_eq] at hok
  have e1 : typedI f x = eachI f x x.w := by simp [typedI, hc]
  rw [e1]
  simp [typedR, h, eachI, ofI, e, memR, isW]
  grind
theorem typed_21 {f : Fn} {x : Inst} (hr : 0 ≤ f.ret ∧ f.ret ≤ 32) (hs : shapedI f x = true) (h : x.op = 21) : typedI f x = typedR f x := by
  have hc : classR x.op = 8 := by rw [h]; rfl
  have hsh : shapeI f x = (1, 0, isW x.w && x.imm == 0) := by simp [shapeI, hc]
  have hl := (shaped_args hs).1
  have hok := shaped_ok hs
  rw [hsh] at hl hok
  obtain ⟨a, e⟩ := one_of (l := x.args) (by have hl' : (x.args.length : Int) = 1 := hl; omega)
  simp only [isW, memR, Bool.and_eq_true, Bool.or_eq_true, decide_eq_true_eq, beq_iff_eq] at hok
  have e1 : typedI f x = eachI f x x.w := by simp [typedI, hc]
  rw [e1]
  simp [typedR, h, eachI, ofI, e, memR, isW]
  grind
theorem typed_22 {f : Fn} {x : Inst} (hr : 0 ≤ f.ret ∧ f.ret ≤ 32) (hs : shapedI f x = true) (h : x.op = 22) : typedI f x = typedR f x := by
  have hc : classR x.op = 9 := by rw [h]; rfl
  have hsh : shapeI f x = (0, 0, isW x.w && x.imm == 0) := by simp [shapeI, hc]
  have hl := (shaped_args hs).1
  have hok := shaped_ok hs
  rw [hsh] at hl hok
  have e : x.args = [] := List.eq_nil_of_length_eq_zero (by have hl' : (x.args.length : Int) = 0 := hl; omega)
  simp only [isW, memR, Bool.and_eq_true, Bool.or_eq_true, decide_eq_true_eq, beq_iff_eq] at hok
  have e1 : typedI f x = true := by simp [typedI, hc]
  rw [e1]
  simp [typedR, h, eachI, ofI, e, memR, isW]
theorem typed_23 {f : Fn} {x : Inst} (hr : 0 ≤ f.ret ∧ f.ret ≤ 32) (hs : shapedI f x = true) (h : x.op = 23) : typedI f x = typedR f x := by
  have hc : classR x.op = 9 := by rw [h]; rfl
  have hsh : shapeI f x = (0, 0, isW x.w && x.imm == 0) := by simp [shapeI, hc]
  have hl := (shaped_args hs).1
  have hok := shaped_ok hs
  rw [hsh] at hl hok
  have e : x.args = [] := List.eq_nil_of_length_eq_zero (by have hl' : (x.args.length : Int) = 0 := hl; omega)
  simp only [isW, memR, Bool.and_eq_true, Bool.or_eq_true, decide_eq_true_eq, beq_iff_eq] at hok
  have e1 : typedI f x = true := by simp [typedI, hc]
  rw [e1]
  simp [typedR, h, eachI, ofI, e, memR, isW]
theorem typed_24 {f : Fn} {x : Inst} (hr : 0 ≤ f.ret ∧ f.ret ≤ 32) (hs : shapedI f x = true) (h : x.op = 24) : typedI f x = typedR f x := by
  have hc : classR x.op = 10 := by rw [h]; rfl
  have hsh : shapeI f x = (0, 0, x.w == 33 && decide (x.imm < f.slots.length)) := by simp [shapeI, hc]
  have hl := (shaped_args hs).1
  have hok := shaped_ok hs
  rw [hsh] at hl hok
  have e : x.args = [] := List.eq_nil_of_length_eq_zero (by have hl' : (x.args.length : Int) = 0 := hl; omega)
  simp only [isW, memR, Bool.and_eq_true, Bool.or_eq_true, decide_eq_true_eq, beq_iff_eq] at hok
  have e1 : typedI f x = true := by simp [typedI, hc]
  rw [e1]
  simp [typedR, h, eachI, ofI, e, memR, isW]
theorem typed_25 {f : Fn} {x : Inst} (hr : 0 ≤ f.ret ∧ f.ret ≤ 32) (hs : shapedI f x = true) (h : x.op = 25) : typedI f x = typedR f x := by
  have hc : classR x.op = 11 := by rw [h]; rfl
  have hsh : shapeI f x = (2, 0, x.w == 33 && x.imm == 0) := by simp [shapeI, hc]
  have hl := (shaped_args hs).1
  have hok := shaped_ok hs
  rw [hsh] at hl hok
  obtain ⟨a, b, e⟩ := two_of (l := x.args) (by have hl' : (x.args.length : Int) = 2 := hl; omega)
  simp only [isW, memR, Bool.and_eq_true, Bool.or_eq_true, decide_eq_true_eq, beq_iff_eq] at hok
  have e1 : typedI f x = (ofI f x 0 == 33 && isW (ofI f x 1)) := by simp [typedI, hc]
  rw [e1]
  simp [typedR, h, eachI, ofI, e, memR, isW]
  grind
theorem typed_26 {f : Fn} {x : Inst} (hr : 0 ≤ f.ret ∧ f.ret ≤ 32) (hs : shapedI f x = true) (h : x.op = 26) : typedI f x = typedR f x := by
  have hc : classR x.op = 12 := by rw [h]; rfl
  have hsh : shapeI f x = (1, 0, memR x.w && x.imm == 0) := by simp [shapeI, hc]
  have hl := (shaped_args hs).1
  have hok := shaped_ok hs
  rw [hsh] at hl hok
  obtain ⟨a, e⟩ := one_of (l := x.args) (by have hl' : (x.args.length : Int) = 1 := hl; omega)
  simp only [isW, memR, Bool.and_eq_true, Bool.or_eq_true, decide_eq_true_eq, beq_iff_eq] at hok
  have e1 : typedI f x = (ofI f x 0 == 33) := by simp [typedI, hc]
  rw [e1]
  simp [typedR, h, eachI, ofI, e, memR, isW]
  grind
theorem typed_27 {f : Fn} {x : Inst} (hr : 0 ≤ f.ret ∧ f.ret ≤ 32) (hs : shapedI f x = true) (h : x.op = 27) : typedI f x = typedR f x := by
  have hc : classR x.op = 13 := by rw [h]; rfl
  have hsh : shapeI f x = (2, 0, x.w == 0 && x.imm == 0) := by simp [shapeI, hc]
  have hl := (shaped_args hs).1
  have hok := shaped_ok hs
  rw [hsh] at hl hok
  obtain ⟨a, b, e⟩ := two_of (l := x.args) (by have hl' : (x.args.length : Int) = 2 := hl; omega)
  simp only [isW, memR, Bool.and_eq_true, Bool.or_eq_true, decide_eq_true_eq, beq_iff_eq] at hok
  have e1 : typedI f x = (ofI f x 0 == 33 && memR (ofI f x 1)) := by simp [typedI, hc]
  rw [e1]
  simp [typedR, h, eachI, ofI, e, memR, isW]
  grind
theorem typed_28 {f : Fn} {x : Inst} (hr : 0 ≤ f.ret ∧ f.ret ≤ 32) (hs : shapedI f x = true) (h : x.op = 28) : typedI f x = typedR f x := by
  have hc : classR x.op = 14 := by rw [h]; rfl
  have hsh : shapeI f x = ((x.to.length : Int), (x.to.length : Int), (isW x.w || x.w == 33) && x.imm == 0 && decide ((x.to.length : Int) > 0)) := by simp [shapeI, hc]
  have hl := (shaped_args hs).1
  have hok := shaped_ok hs
  rw [hsh] at hl hok
  have hw : 1 ≤ x.w := by
    simp only [Bool.and_eq_true, Bool.or_eq_true, isW, decide_eq_true_eq, beq_iff_eq] at hok
    omega
  have e1 : typedI f x = eachI f x x.w := by simp [typedI, hc]
  have e2 : typedR f x = if (x.args.map (kindR f)).any (fun n => decide (n < 0)) then false else (x.args.map (kindR f)).all (fun n => n == x.w) := by simp [typedR, h]
  rw [e1, e2, each_map hw]
theorem typed_29 {f : Fn} {x : Inst} (hr : 0 ≤ f.ret ∧ f.ret ≤ 32) (hs : shapedI f x = true) (h : x.op = 29) : typedI f x = typedR f x := by
  have hc : classR x.op = 15 := by rw [h]; rfl
  have hsh : shapeI f x = (0, 1, x.w == 0 && x.imm == 0) := by simp [shapeI, hc]
  have hl := (shaped_args hs).1
  have hok := shaped_ok hs
  rw [hsh] at hl hok
  have e : x.args = [] := List.eq_nil_of_length_eq_zero (by have hl' : (x.args.length : Int) = 0 := hl; omega)
  simp only [isW, memR, Bool.and_eq_true, Bool.or_eq_true, decide_eq_true_eq, beq_iff_eq] at hok
  have e1 : typedI f x = true := by simp [typedI, hc]
  rw [e1]
  simp [typedR, h, eachI, ofI, e, memR, isW]
theorem typed_30 {f : Fn} {x : Inst} (hr : 0 ≤ f.ret ∧ f.ret ≤ 32) (hs : shapedI f x = true) (h : x.op = 30) : typedI f x = typedR f x := by
  have hc : classR x.op = 16 := by rw [h]; rfl
  have hsh : shapeI f x = (1, 2, x.w == 0 && x.imm == 0 && ((x.to.length : Int) != 2 || x.to.getD 0 0 != x.to.getD 1 0)) := by simp [shapeI, hc]
  have hl := (shaped_args hs).1
  have hok := shaped_ok hs
  rw [hsh] at hl hok
  obtain ⟨a, e⟩ := one_of (l := x.args) (by have hl' : (x.args.length : Int) = 1 := hl; omega)
  simp only [isW, memR, Bool.and_eq_true, Bool.or_eq_true, decide_eq_true_eq, beq_iff_eq] at hok
  have e1 : typedI f x = (ofI f x 0 == 1) := by simp [typedI, hc]
  rw [e1]
  simp [typedR, h, eachI, ofI, e, memR, isW]
  grind
theorem typed_31 {f : Fn} {x : Inst} (hr : 0 ≤ f.ret ∧ f.ret ≤ 32) (hs : shapedI f x = true) (h : x.op = 31) : typedI f x = typedR f x := by
  have hc : classR x.op = 17 := by rw [h]; rfl
  have hsh : shapeI f x = ((if (1 : Int) < f.ret then 1 else f.ret), 0, x.w == 0 && x.imm == 0) := by simp [shapeI, hc]
  have hl := (shaped_args hs).1
  have hok := shaped_ok hs
  rw [hsh] at hl hok
  have e1 : typedI f x = eachI f x f.ret := by simp [typedI, hc]
  by_cases h0 : f.ret = 0
  · have e : x.args = [] := List.eq_nil_of_length_eq_zero (by have hl' : (x.args.length : Int) = (if (1 : Int) < f.ret then 1 else f.ret) := hl; rw [h0] at hl'; simp at hl'; exact List.length_eq_zero_iff.2 hl')
    rw [e1]
    simp [typedR, h, eachI, e]
  · obtain ⟨a, e⟩ := one_of (l := x.args) (by have hl' : (x.args.length : Int) = (if (1 : Int) < f.ret then 1 else f.ret) := hl; split at hl' <;> omega)
    rw [e1]
    simp [typedR, h, eachI, e]
    grind
theorem typed_32 {f : Fn} {x : Inst} (hr : 0 ≤ f.ret ∧ f.ret ≤ 32) (hs : shapedI f x = true) (h : x.op = 32) : typedI f x = typedR f x := by
  have hc : classR x.op = 18 := by rw [h]; rfl
  have hsh : shapeI f x = (0, 0, x.w == 0 && x.imm == 0) := by simp [shapeI, hc]
  have hl := (shaped_args hs).1
  have hok := shaped_ok hs
  rw [hsh] at hl hok
  have e : x.args = [] := List.eq_nil_of_length_eq_zero (by have hl' : (x.args.length : Int) = 0 := hl; omega)
  simp only [isW, memR, Bool.and_eq_true, Bool.or_eq_true, decide_eq_true_eq, beq_iff_eq] at hok
  have e1 : typedI f x = true := by simp [typedI, hc]
  rw [e1]
  simp [typedR, h, eachI, ofI, e, memR, isW]
theorem typed_eq {f : Fn} {x : Inst} (hr : 0 ≤ f.ret ∧ f.ret ≤ 32) (hs : shapedI f x = true) : typedI f x = typedR f x := by
  by_cases hop : 0 ≤ x.op ∧ x.op ≤ 32
  · have hc : x.op = 0 ∨ x.op = 1 ∨ x.op = 2 ∨ x.op = 3 ∨ x.op = 4 ∨ x.op = 5 ∨ x.op = 6 ∨ x.op = 7 ∨ x.op = 8 ∨ x.op = 9 ∨ x.op = 10 ∨ x.op = 11 ∨ x.op = 12 ∨ x.op = 13 ∨ x.op = 14 ∨ x.op = 15 ∨ x.op = 16 ∨ x.op = 17 ∨ x.op = 18 ∨ x.op = 19 ∨ x.op = 20 ∨ x.op = 21 ∨ x.op = 22 ∨ x.op = 23 ∨ x.op = 24 ∨ x.op = 25 ∨ x.op = 26 ∨ x.op = 27 ∨ x.op = 28 ∨ x.op = 29 ∨ x.op = 30 ∨ x.op = 31 ∨ x.op = 32 := by omega
    rcases hc with h | h | h | h | h | h | h | h | h | h | h | h | h | h | h | h | h | h | h | h | h | h | h | h | h | h | h | h | h | h | h | h | h
    · exact typed_0 hr hs h
    · exact typed_1 hr hs h
    · exact typed_2 hr hs h
    · exact typed_3 hr hs h
    · exact typed_4 hr hs h
    · exact typed_5 hr hs h
    · exact typed_6 hr hs h
    · exact typed_7 hr hs h
    · exact typed_8 hr hs h
    · exact typed_9 hr hs h
    · exact typed_10 hr hs h
    · exact typed_11 hr hs h
    · exact typed_12 hr hs h
    · exact typed_13 hr hs h
    · exact typed_14 hr hs h
    · exact typed_15 hr hs h
    · exact typed_16 hr hs h
    · exact typed_17 hr hs h
    · exact typed_18 hr hs h
    · exact typed_19 hr hs h
    · exact typed_20 hr hs h
    · exact typed_21 hr hs h
    · exact typed_22 hr hs h
    · exact typed_23 hr hs h
    · exact typed_24 hr hs h
    · exact typed_25 hr hs h
    · exact typed_26 hr hs h
    · exact typed_27 hr hs h
    · exact typed_28 hr hs h
    · exact typed_29 hr hs h
    · exact typed_30 hr hs h
    · exact typed_31 hr hs h
    · exact typed_32 hr hs h
  · have ne : ∀ k : Int, 0 ≤ k → k ≤ 32 → (x.op == k) = false := fun k h1 h2 => by rw [beq_eq_false_iff_ne]; omega
    have nd : (decide (x.op ≥ 1) && decide (x.op ≤ 13)) = false := by
      rw [Bool.and_eq_false_iff]; simp only [decide_eq_false_iff_not]; omega
    have e1 : classR x.op = 0 := by
      simp only [classR, ne 0 (by decide) (by decide), ne 1 (by decide) (by decide), ne 2 (by decide) (by decide), ne 3 (by decide) (by decide), ne 4 (by decide) (by decide), ne 5 (by decide) (by decide), ne 6 (by decide) (by decide), ne 7 (by decide) (by decide), ne 8 (by decide) (by decide), ne 9 (by decide) (by decide), ne 10 (by decide) (by decide), ne 11 (by decide) (by decide), ne 12 (by decide) (by decide), ne 13 (by decide) (by decide), ne 14 (by decide) (by decide), ne 15 (by decide) (by decide), ne 16 (by decide) (by decide), ne 17 (by decide) (by decide), ne 18 (by decide) (by decide), ne 19 (by decide) (by decide), ne 20 (by decide) (by decide), ne 21 (by decide) (by decide), ne 22 (by decide) (by decide), ne 23 (by decide) (by decide), ne 24 (by decide) (by decide), ne 25 (by decide) (by decide), ne 26 (by decide) (by decide), ne 27 (by decide) (by decide), ne 28 (by decide) (by decide), ne 29 (by decide) (by decide), ne 30 (by decide) (by decide), ne 31 (by decide) (by decide), ne 32 (by decide) (by decide), nd, Bool.or_self, Bool.false_eq_true, if_false]
    have := shaped_ok hs
    simp [shapeI, e1] at this
end Go.AL
namespace Go.AL
def blockN (f : Fn) (n : Nat) : List Int := ((placed f).take n).map fun p => (p.2.1 : Int)
def atN (f : Fn) (n : Nat) : List Int := ((placed f).take n).map fun p => (p.2.2 : Int)
def blsI (f : Fn) : List Int := (placed f).map fun p => (p.2.1 : Int)
def atsI (f : Fn) : List Int := (placed f).map fun p => (p.2.2 : Int)
theorem blockN_succ {f : Fn} {n : Nat} {p : Inst × Nat × Nat} (h : (placed f)[n]? = some p) : blockN f (n + 1) = blockN f n ++ [(p.2.1 : Int)] := by
  obtain ⟨hn, e⟩ := List.getElem?_eq_some_iff.1 h
  rw [blockN, blockN, List.take_succ_eq_append_getElem hn, List.map_append]; simp [e]
theorem atN_succ {f : Fn} {n : Nat} {p : Inst × Nat × Nat} (h : (placed f)[n]? = some p) : atN f (n + 1) = atN f n ++ [(p.2.2 : Int)] := by
  obtain ⟨hn, e⟩ := List.getElem?_eq_some_iff.1 h
  rw [atN, atN, List.take_succ_eq_append_getElem hn, List.map_append]; simp [e]
theorem blockN_len {f : Fn} {n : Nat} (hn : n ≤ (placed f).length) : (blockN f n).length = n := by rw [blockN, List.length_map, List.length_take, Nat.min_eq_left hn]
theorem atN_len {f : Fn} {n : Nat} (hn : n ≤ (placed f).length) : (atN f n).length = n := by rw [atN, List.length_map, List.length_take, Nat.min_eq_left hn]
theorem blockN_all {f : Fn} : blockN f (itemsA f).length = blsI f := by rw [blockN, blsI, List.take_of_length_le (by rw [placed_len, items_len]; omega)]
theorem atN_all {f : Fn} : atN f (itemsA f).length = atsI f := by rw [atN, atsI, List.take_of_length_le (by rw [placed_len, items_len]; omega)]
def homeD (f : Fn) : D := .agg [.int .i64 f.params.length, .sl 1 (ints (blsI f)), .sl 1 (ints (atsI f)), .sl 1 ((graphR f).map rowD)]
def thereI (f : Fn) (v b a : Int) : Bool :=
  if v < f.params.length then true else match (placed f)[(v - f.params.length).toNat]? with
    | some (_, c, i) => if (c : Int) == b then decide ((i : Int) < a) else !(domE (graphR f) c b) && dominatesR (graphR f) c b
    | none => true
theorem placed_in {f : Fn} {n : Nat} {x : Inst} {b i : Nat} (h : (placed f)[n]? = some (x, b, i)) : ∃ (hb : b < f.blocks.length) (hi : i < f.blocks[b].length), x = f.blocks[b][i] ∧ n = total (f.blocks.take b) + i := by
  have hn : n < total f.blocks := by rw [← placed_len]; exact (List.getElem?_eq_some_iff.1 h).1
  obtain ⟨b', i', hb, hi, e⟩ := place_of f.blocks n hn
  rw [e, placed_get hb hi] at h
  simp only [Option.some.injEq, Prod.mk.injEq] at h
  obtain ⟨h1, rfl, rfl⟩ := h
  exact ⟨hb, hi, h1.symm, e⟩
theorem placed_some {f : Fn} {n : Nat} (h : n < total f.blocks) : ∃ x b i, (placed f)[n]? = some (x, b, i) := by
  rw [← placed_len] at h
  exact ⟨_, _, _, List.getElem?_eq_getElem h⟩
end Go.AL
namespace Go.AL
open Go.Proofs
theorem u181 : Tryz.prog.underlying 181 = some Tryz.t180.desc := by kernel_rfl
theorem s181 : (Tryz.prog.info? 181).map (·.size) = some 4 := by kernel_rfl
theorem z181 : (Tryz.prog.info? 181).bind (·.zero) = Tryz.t181.zero := by kernel_rfl
theorem b181 : ((Tryz.prog.info? 181).map fun i => Nat.ble i.bytes 1000) = some true := by kernel_rfl
theorem e170 : Enters Tryz.prog 170 := enters_of Tryz.func170 (by kernel_rfl) (by kernel_rfl)
set_option maxRecDepth 100000 in
set_option maxHeartbeats 4000000 in
theorem c170 (f : Fn) (hf : f.Fits) (hs : total f.blocks ≤ 1000) (hne : ∀ l ∈ f.blocks, l ≠ []) : Ok Tryz.prog 170 [.dat none (fnD f)] [] (.st [.v (.int .i64 f.params.length), .row 170001 1 0 (total f.blocks), .row 170002 1 0 (total f.blocks), .row 138001 1 0 f.blocks.length]) [(170001, .row 1 (ints (blsI f))), (170002, .row 1 (ints (atsI f))), (138001, .row 1 ((graphR f).map rowD))] := by
  refine ok_of e170 Tryz.func170 rfl (by kernel_rfl) ?_
  intro cx hP hro hN hvk
  obtain ⟨P, ro, w0, Bin, N, R0, tk0, bl0, vk⟩ := cx
  subst hP hro hN
  have hvkd := vkd_of hvk
  refine aw_seq ?_
  refine aw_region ?_
  refine al_opc (k := 101) rfl rfl rfl ((hvk _).trans rfl) (opC_box rfl (ev_tmp rfl) rfl) ?_
  refine al_opc (k := 102) rfl rfl rfl ((hvk _).trans rfl) (opC_alloc rfl z181) ?_
  refine al_nil ?_
  refine aw_seq ?_
  refine aw_draw mixed ?_
  apply ad_phase' [⟨0, 5, _, [], []⟩, ⟨1, 6, _, [0], []⟩, ⟨2, 7, _, [0, 1], []⟩, ⟨3, 8, _, [], []⟩, ⟨4, 9, .row 138001 1 0 f.blocks.length, [3], [(138001, .row 1 ((graphR f).map rowD))]⟩, ⟨5, 10, .st [.v (.int .i64 f.params.length), .nil, .nil, .row 138001 1 0 f.blocks.length], [0, 1, 2, 3, 4], []⟩, ⟨6, 3, _, [], [(103, _)]⟩] [] (fuelT := 1)
  · skip
    refine .cons rfl (stepD_op rfl (opP_fieldAddr rfl (ev_tmp rfl) u27 rfl rfl s22 rfl)) ?_
    refine .cons rfl (stepD_op rfl (opP_load_pt rfl u22 rfl (ev_tmp rfl) rfl rfl)) ?_
    refine .cons rfl (stepD_op rfl (opP_len rfl u22 (ev_tmp rfl) (by first | exact lenA_ints | exact lenA_map | rfl))) ?_
    refine .cons rfl (stepD_op rfl (opP_load_ptn (cs := fnA f) rfl u27 rfl s27 (ev_tmp rfl) rfl rfl)) ?_
    refine .cons rfl (stepD_call (id) rfl (callOf_func rfl (.cons (ev_tmp rfl) .nil)) (c138 f hf hne) (by repeat' (first | refine Vw.stDOf ?_ | refine Vw.ptOf rfl rfl rfl ?_ | refine Vw.prvOf ?_ | refine Vw.cloOf ?_ | constructor)) rfl rfl rfl (fun _ => rfl) (fun _ => rfl)) ?_
    refine .cons rfl (stepD_op rfl (opP_build rfl u181 z181 rfl (.cons (ev_tmp rfl) (.cons (ev_tmp rfl) .nil)) rfl)) ?_
    refine .cons rfl (stepD_opc rfl (opC_alloc rfl z181)) ?_
    exact .nil
  · exact .no rfl (.no rfl (.no rfl (.no rfl (.no rfl (.no rfl (.no rfl (.nil)))))))
  · rfl
  · rfl
  · rfl
  · rfl
  · exact fun c s h => h
  · exact hvkd _ rfl
  · rfl
  refine ad_one rfl rfl ?_
  refine al_store_pt rfl rfl rfl s181 (ev_tmp rfl) (ev_tmp rfl) rfl rfl rfl rfl rfl rfl ?_
  refine al_nil ?_
  refine ad_done rfl ?_
  refine aw_seq ?_
  refine aw_seq ?_
  refine aw_region ?_
  refine al_imp (imp_nilcell (k := 170001) (es := 1) (j := 103) (oo := 1) ((hvk _).trans rfl) rfl rfl rfl) ?_
  refine al_imp (imp_nilcell (k := 170002) (es := 1) (j := 103) (oo := 2) ((hvk _).trans rfl) rfl rfl rfl) ?_
  refine al_op rfl rfl rfl (opP_load_ptn rfl u27 rfl s27 (ev_tmp rfl) rfl rfl) ?_
  refine al_callR (id) rfl rfl rfl (callOf_func rfl (.cons (ev_tmp rfl) .nil)) (c97 f) (by repeat' (first | refine VwR.stDOf ?_ | refine VwR.stOf ?_ | refine VwR.cloOf ?_ | constructor)) rfl rfl rfl (fun p hp => (hvk _).trans (by simp at hp; subst hp; rfl)) ?_
  refine al_nil ?_
  refine aw_block ?_
  refine aw_range (α := Unit) (p := 13) (it160 f hf 97001 rfl) rfl rfl rfl 301 [103] [170001, 170002, 138001] [(2, .pt 102 0), (3, .pt 103 0)] [(2, .any), (3, .pt 103 0)] [(97001, .var (fnA f)), (102, .var [.v (.int .i64 0), .nil, .nil, .nil])] (fun n _ => [(103, .var [.v (.int .i64 f.params.length), .row 170001 1 0 n, .row 170002 1 0 n, .row 138001 1 0 f.blocks.length]), (170001, .row 1 (ints (blockN f n))), (170002, .row 1 (ints (atN f n))), (138001, .row 1 ((graphR f).map rowD))]) (fun n _ => True) (fun _ _ => False) (fun n => itemOf f n) () trivial rfl ((hvk _).trans rfl) (fun k hk => hvkd [170001, 170002, 138001] rfl k (inL_iff.1 hk)) (fun k hk => hvkd [160001] rfl k (inL_iff.1 hk)) rfl rfl rfl rfl (by repeat (first | exact trivial | refine ⟨rfl, ?_⟩)) rfl rfl (by repeat (first | exact trivial | refine ⟨rfl, ?_⟩)) (by repeat (first | exact trivial | refine ⟨rfl, ?_⟩)) (fun objs h => has_one h) (fun n x h => rfl) (fun _ _ h => h.elim) (fun n x h => rfl) (fun _ _ h => h.elim) (fun n hn _ objs _ => item_vw hn objs _) (fun n x h => (by repeat' (first | exact VwS.nil | refine VwS.cons ?_ ?_ | refine Vw.ptOf rfl rfl rfl ?_ | refine Vw.prvOf ?_ | refine Vw.cloOf ?_ | constructor))) ?_ ?_ ?_
  · rintro n hn _ hI cx hP ⟨l, hro⟩ hN hvk
    obtain ⟨P, ro, w0, Bin, N, R0, tk0, bl0, vk⟩ := cx
    have hP : P = Tryz.prog := hP
    have hN : N = Tryz.f170.ntmps := hN
    have hro : ro = some l := hro
    subst hP hN hro
    have hvkd := vkd_of hvk
    obtain ⟨b, i, hb, hi, hnn, hit, hpl⟩ := item_at hn
    rw [hit]
    have hnl : n < (placed f).length := by rw [placed_len, ← items_len]; exact hn
    refine aw_region ?_
    refine al_opc (k := 104) rfl rfl rfl ((hvk _).trans rfl) (opC_alloc rfl z129) ?_
    refine al_store_pt rfl rfl rfl s129 (ev_tmp rfl) (ev_tmp rfl) rfl rfl rfl rfl rfl rfl ?_
    refine al_nil ?_
    refine ⟨rfl, ?_⟩
    rintro cx hP ⟨l, hro⟩ hN hvk
    obtain ⟨P, ro, w0, Bin, N, R0, tk0, bl0, vk⟩ := cx
    have hP : P = Tryz.prog := hP
    have hN : N = Tryz.f170.ntmps := hN
    have hro : ro = some l := hro
    subst hP hN hro
    have hvkd := vkd_of hvk
    refine aw_block ?_
    refine aw_seq ?_
    refine aw_region ?_
    refine al_op rfl rfl rfl (opP_fieldAddr rfl (ev_tmp rfl) u181 rfl rfl s22 rfl) ?_
    refine al_op rfl rfl rfl (opP_load_pt rfl u22 rfl (ev_tmp rfl) rfl rfl) ?_
    refine al_op rfl rfl rfl (opP_fieldAddr rfl (ev_tmp rfl) u129 rfl rfl s3 rfl) ?_
    refine al_op rfl rfl rfl (opP_load_pt rfl u3 rfl (ev_tmp rfl) rfl rfl) ?_
    refine al_opc (k := 201) rfl rfl rfl ((hvk _).trans rfl) (opC_buildSlice (ds := [.int .i64 _]) rfl u22 s3 z3 rfl rfl (.cons (ev_tmp rfl) .nil) rfl rfl (.cons (.v _ rfl) .nil) rfl rfl rfl) ?_
    refine al_opc rfl rfl rfl ((hvk _).trans rfl) (opC_append rfl u22 s3 z3 rfl b3 (ev_tmp rfl) (ev_tmp rfl) (.row 170001 1 _ _ rfl (by rw [ints_len, blockN_len (by omega)])) (.row 201 1 _ _ rfl rfl) rfl rfl (by rw [ints_len, blockN_len (by omega)]; have := placed_len f; simp; omega) rfl) ?_
    refine al_op rfl rfl rfl (opP_fieldAddr rfl (ev_tmp rfl) u181 rfl rfl s22 rfl) ?_
    refine al_store_pt rfl rfl rfl s22 (ev_tmp rfl) (ev_tmp rfl) rfl rfl rfl rfl rfl rfl ?_
    refine al_nil ?_
    refine aw_region ?_
    refine al_op rfl rfl rfl (opP_fieldAddr rfl (ev_tmp rfl) u181 rfl rfl s22 rfl) ?_
    refine al_op rfl rfl rfl (opP_load_pt rfl u22 rfl (ev_tmp rfl) rfl rfl) ?_
    refine al_op rfl rfl rfl (opP_fieldAddr rfl (ev_tmp rfl) u129 rfl rfl s3 rfl) ?_
    refine al_op rfl rfl rfl (opP_load_pt rfl u3 rfl (ev_tmp rfl) rfl rfl) ?_
    refine al_opc (k := 202) rfl rfl rfl ((hvk _).trans rfl) (opC_buildSlice (ds := [.int .i64 _]) rfl u22 s3 z3 rfl rfl (.cons (ev_tmp rfl) .nil) rfl rfl (.cons (.v _ rfl) .nil) rfl rfl rfl) ?_
    refine al_opc rfl rfl rfl ((hvk _).trans rfl) (opC_append rfl u22 s3 z3 rfl b3 (ev_tmp rfl) (ev_tmp rfl) (.row 170002 1 _ _ rfl (by rw [ints_len, atN_len (by omega)])) (.row 202 1 _ _ rfl rfl) rfl rfl (by rw [ints_len, atN_len (by omega)]; have := placed_len f; simp; omega) rfl) ?_
    refine al_op rfl rfl rfl (opP_fieldAddr rfl (ev_tmp rfl) u181 rfl rfl s22 rfl) ?_
    refine al_store_pt rfl rfl rfl s22 (ev_tmp rfl) (ev_tmp rfl) rfl rfl rfl rfl rfl rfl ?_
    refine al_nil ?_
    refine round_id [(103, .var [.v (.int .i64 f.params.length), .row 170001 1 0 (n + 1), .row 170002 1 0 (n + 1), .row 138001 1 0 f.blocks.length]), (170001, .row 1 (ints (blockN f (n + 1)))), (170002, .row 1 (ints (atN f (n + 1)))), (138001, .row 1 ((graphR f).map rowD))] ⟨(), trivial, rfl⟩ ⟨?_, ?_, ?_, rfl, trivial⟩ rfl
    · show some (O.var [_, A.row 170001 1 0 ((ints (blockN f n)).length + 1), A.row 170002 1 0 ((ints (atN f n)).length + 1), _]) = _
      rw [ints_len, ints_len, blockN_len (by omega), atN_len (by omega)]; rfl
    · rw [blockN_succ hpl, show ints (blockN f n ++ [(b : Int)]) = ints (blockN f n) ++ [.int .i64 b] by simp [ints]]; rfl
    · rw [atN_succ hpl, show ints (atN f n ++ [(i : Int)]) = ints (atN f n) ++ [.int .i64 i] by simp [ints]]; rfl
  · rintro _ hI
    refine aw_seq ?_
    refine aw_region ?_
    refine al_op rfl rfl rfl (opP_load_ptn rfl u181 rfl s181 (ev_tmp rfl) rfl rfl) ?_
    refine al_store_pt rfl rfl rfl s181 (ev_tmp rfl) (ev_tmp rfl) rfl rfl rfl rfl rfl rfl ?_
    refine al_nil ?_
    refine aw_ret ?_
    have e1 : (itemsA f).length = total f.blocks := items_len f
    rw [← blockN_all, ← atN_all, ← e1]
    exact ret_id [.st [_, _, _, _]] (.celln' rfl u181 rfl s181 rfl rfl rfl .nil) rfl ⟨rfl, rfl, rfl, trivial⟩ rfl rfl
  · exact fun _ _ h => h.elim
theorem e172 : Enters Tryz.prog 172 := enters_of Tryz.func172 (by kernel_rfl) (by kernel_rfl)
set_option maxRecDepth 100000 in
set_option maxHeartbeats 4000000 in
theorem c172 (f : Fn) (v block at' : Int) (hf : f.Fits) (hgg : GG (graphR f)) (h0 : 0 ≤ v) (hv : v < countR f) (hb : 0 ≤ block ∧ block < f.blocks.length) : Ok Tryz.prog 172 [.dat none (homeD f), .v (.int .i64 v), .v (.int .i64 block), .v (.int .i64 at')] [] (.v (.bool (thereI f v block at'))) [] := by
  refine ok_of e172 Tryz.func172 rfl (by kernel_rfl) ?_
  intro cx hP hro hN hvk
  obtain ⟨P, ro, w0, Bin, N, R0, tk0, bl0, vk⟩ := cx
  subst hP hro hN
  have hvkd := vkd_of hvk
  refine aw_seq ?_
  refine aw_region ?_
  refine al_opc (k := 101) rfl rfl rfl ((hvk _).trans rfl) (opC_box rfl (ev_tmp rfl) rfl) ?_
  refine al_op rfl rfl rfl (opP_assign rfl (ev_const rfl)) ?_
  refine al_nil ?_
  refine aw_seq ?_
  refine aw_seq ?_
  refine aw_region ?_
  refine al_op rfl rfl rfl (opP_move rfl (ev_tmp rfl)) ?_
  refine al_op rfl rfl rfl (opP_fieldAddr rfl (ev_tmp rfl) u181 rfl rfl s3 rfl) ?_
  refine al_op rfl rfl rfl (opP_load_pt rfl u3 rfl (ev_tmp rfl) rfl rfl) ?_
  refine al_op rfl rfl rfl (opP_bin rfl (ev_tmp rfl) (ev_tmp rfl) rfl) ?_
  refine al_nil ?_
  refine aw_cond rfl (fun h1 => ?_) (fun h1 => ?_)
  · refine aw_seq ?_
    refine aw_region ?_
    refine al_op rfl rfl rfl (opP_assign rfl (ev_const rfl)) ?_
    refine al_nil ?_
    refine aw_ret ?_
    have e : thereI f v block at' = true := by unfold thereI; rw [if_pos (by simpa using h1)]
    rw [e]; exact ret_id _ (.tmp rfl .nil) rfl trivial rfl rfl
  have hp : ¬ v < f.params.length := by simpa using h1
  obtain ⟨x, c, i, hpl⟩ := placed_some (f := f) (n := (v - f.params.length).toNat) (by unfold countR at hv; omega)
  have hw : IntKind.i64.wrap (v - f.params.length) = v - f.params.length := by have := hf.total; have := hf.params; unfold countR at hv; rw [wrapI ⟨by omega, by omega⟩]
  obtain ⟨hcb, hci, _, _⟩ := placed_in hpl
  have hi1 : (ints (blsI f))[(IntKind.i64.wrap (v - f.params.length)).toNat]? = some (.int .i64 (c : Int)) := by rw [hw, ints, blsI, List.getElem?_map, List.getElem?_map, hpl]; rfl
  have hi2 : (ints (atsI f))[(IntKind.i64.wrap (v - f.params.length)).toNat]? = some (.int .i64 (i : Int)) := by rw [hw, ints, atsI, List.getElem?_map, List.getElem?_map, hpl]; rfl
  have hth : thereI f v block at' = if (c : Int) == block then decide ((i : Int) < at') else !(domE (graphR f) c block) && dominatesR (graphR f) c block := by unfold thereI; rw [if_neg hp, hpl]
  have hgl := graph_len f
  refine aw_skip ?_
  refine aw_seq ?_
  refine aw_region ?_
  refine al_op rfl rfl rfl (opP_move rfl (ev_tmp rfl)) ?_
  refine al_op rfl rfl rfl (opP_fieldAddr rfl (ev_tmp rfl) u181 rfl rfl s3 rfl) ?_
  refine al_op rfl rfl rfl (opP_load_pt rfl u3 rfl (ev_tmp rfl) rfl rfl) ?_
  refine al_op rfl rfl rfl (opP_bin rfl (ev_tmp rfl) (ev_tmp rfl) rfl) ?_
  refine al_op rfl rfl rfl (opP_assign rfl (ev_tmp rfl)) ?_
  refine al_nil ?_
  refine aw_seq ?_
  refine aw_seq ?_
  refine aw_region ?_
  refine al_op rfl rfl rfl (opP_fieldAddr rfl (ev_tmp rfl) u181 rfl rfl s22 rfl) ?_
  refine al_op rfl rfl rfl (opP_load_pt rfl u22 rfl (ev_tmp rfl) rfl rfl) ?_
  refine al_op rfl rfl rfl (opP_move rfl (ev_tmp rfl)) ?_
  refine al_op rfl rfl rfl (opP_index_dat rfl u22 s3 (ev_tmp rfl) (ev_tmp rfl) (fun _ => by rw [hw]; omega) (fun _ => hi1)) ?_
  refine al_op rfl rfl rfl (opP_load_pr rfl u3 rfl (ev_tmp rfl)) ?_
  refine al_op rfl rfl rfl (opP_move rfl (ev_tmp rfl)) ?_
  refine al_op rfl rfl rfl (opP_bin rfl (ev_tmp rfl) (ev_tmp rfl) rfl) ?_
  refine al_nil ?_
  refine aw_cond rfl (fun h2 => ?_) (fun h2 => ?_)
  · refine aw_seq ?_
    refine aw_region ?_
    refine al_op rfl rfl rfl (opP_fieldAddr rfl (ev_tmp rfl) u181 rfl rfl s22 rfl) ?_
    refine al_op rfl rfl rfl (opP_load_pt rfl u22 rfl (ev_tmp rfl) rfl rfl) ?_
    refine al_op rfl rfl rfl (opP_move rfl (ev_tmp rfl)) ?_
    refine al_op rfl rfl rfl (opP_index_dat rfl u22 s3 (ev_tmp rfl) (ev_tmp rfl) (fun _ => by rw [hw]; omega) (fun _ => hi2)) ?_
    refine al_op rfl rfl rfl (opP_load_pr rfl u3 rfl (ev_tmp rfl)) ?_
    refine al_op rfl rfl rfl (opP_move rfl (ev_tmp rfl)) ?_
    refine al_op rfl rfl rfl (opP_bin rfl (ev_tmp rfl) (ev_tmp rfl) rfl) ?_
    refine al_op rfl rfl rfl (opP_assign rfl (ev_tmp rfl)) ?_
    refine al_nil ?_
    refine aw_ret ?_
    rw [hth, if_pos h2]; exact ret_id _ (.tmp rfl .nil) rfl trivial rfl rfl
  refine aw_skip ?_
  refine aw_seq ?_
  refine aw_draw mixed ?_
  apply ad_phase' [⟨0, 34, _, [], []⟩, ⟨1, 35, _, [0], []⟩, ⟨2, 36, _, [], []⟩, ⟨3, 37, _, [2], []⟩, ⟨4, 38, _, [], []⟩, ⟨5, 39, _, [2, 3, 4], []⟩, ⟨6, 40, _, [2, 3, 4, 5], []⟩, ⟨7, 41, _, [], []⟩, ⟨8, 42, .tup [.v (.bool (!(domE (graphR f) c block) && dominatesR (graphR f) c block)), .v (.int .i64 (if domE (graphR f) c block then 9 else 0))], [0, 1, 2, 3, 4, 5, 6, 7], []⟩, ⟨9, 33, _, [0, 1, 2, 3, 4, 5, 6, 7, 8], []⟩, ⟨10, 43, _, [0, 1, 2, 3, 4, 5, 6, 7, 8, 9], []⟩, ⟨11, 44, _, [0, 1, 2, 3, 4, 5, 6, 7, 8, 9], []⟩, ⟨12, 9, _, [0, 1, 2, 3, 4, 5, 6, 7, 8, 9, 10], []⟩, ⟨13, 10, _, [0, 1, 2, 3, 4, 5, 6, 7, 8, 9, 10, 11, 12], []⟩] [] (fuelT := 0)
  · skip
    refine .cons rfl (stepD_op rfl (opP_fieldAddr rfl (ev_tmp rfl) u181 rfl rfl s47 rfl)) ?_
    refine .cons rfl (stepD_op rfl (opP_load_pt rfl u47 rfl (ev_tmp rfl) rfl rfl)) ?_
    refine .cons rfl (stepD_op rfl (opP_fieldAddr rfl (ev_tmp rfl) u181 rfl rfl s22 rfl)) ?_
    refine .cons rfl (stepD_op rfl (opP_load_pt rfl u22 rfl (ev_tmp rfl) rfl rfl)) ?_
    refine .cons rfl (stepD_op rfl (opP_move rfl (ev_tmp rfl))) ?_
    refine .cons rfl (stepD_op rfl (opP_index_dat rfl u22 s3 (ev_tmp rfl) (ev_tmp rfl) (fun _ => by rw [hw]; omega) (fun _ => hi1))) ?_
    refine .cons rfl (stepD_op rfl (opP_load_pr rfl u3 rfl (ev_tmp rfl))) ?_
    refine .cons rfl (stepD_op rfl (opP_move rfl (ev_tmp rfl))) ?_
    refine .cons rfl (stepD_call (id) rfl (callOf_func rfl (.cons (ev_tmp rfl) (.cons (ev_tmp rfl) (.cons (ev_tmp rfl) .nil)))) (c212 (graphR f) c block hgg ⟨by omega, by omega⟩ ⟨hb.1, by omega⟩) (by repeat' (first | refine Vw.stDOf ?_ | refine Vw.ptOf rfl rfl rfl ?_ | refine Vw.prvOf ?_ | refine Vw.cloOf ?_ | constructor)) rfl rfl rfl (fun _ => rfl) (fun _ => rfl)) ?_
    refine .cons rfl (stepD_op rfl (opP_move rfl (ev_tmp rfl))) ?_
    refine .cons rfl (stepD_op rfl (opP_extract rfl (ev_tmp rfl) rfl)) ?_
    refine .cons rfl (stepD_op rfl (opP_extract rfl (ev_tmp rfl) rfl)) ?_
    refine .cons rfl (stepD_op rfl (opP_assign rfl (ev_tmp rfl))) ?_
    refine .cons rfl (stepD_op rfl (opP_assign rfl (ev_tmp rfl))) ?_
    exact .nil
  · exact .no rfl (.no rfl (.no rfl (.no rfl (.no rfl (.no rfl (.no rfl (.no rfl (.no rfl (.no rfl (.no rfl (.no rfl (.no rfl (.no rfl (.nil))))))))))))))
  · rfl
  · rfl
  · rfl
  · rfl
  · exact fun c s h => h
  · exact hvkd _ rfl
  · rfl
  refine ad_done rfl ?_
  refine aw_seq ?_
  refine aw_region ?_
  refine al_op rfl rfl rfl (opP_move rfl (ev_tmp rfl)) ?_
  refine al_op rfl rfl rfl (opP_bin rfl (ev_tmp rfl) (ev_const rfl) rfl) ?_
  refine al_op rfl rfl rfl (opP_move rfl (ev_tmp rfl)) ?_
  refine al_opg rfl rfl rfl rfl rfl rfl (opP_move rfl (ev_tmp rfl)) ?_
  refine al_op rfl rfl rfl (opP_and rfl (ev_tmp rfl) (ev_when rfl id)) ?_
  refine al_op rfl rfl rfl (opP_assign rfl (ev_tmp rfl)) ?_
  refine al_nil ?_
  refine aw_ret ?_
  rw [hth, if_neg (by rw [h2]; simp)]
  refine ret_id [.v (.bool _)] (.tmp rfl .nil) (congrArg (fun b => A.v (.bool b)) ?_) trivial rfl rfl
  cases domE (graphR f) c block <;> simp
end Go.AL
namespace Go.AL
def layBadI (l : List Inst) (i : Nat) (hi : i < l.length) : Bool :=
  (decide ((i : Int) < (l.length : Int) - 1) && isLastR l[i].op) || ((l[i].op == 28 && decide ((i : Int) > 0)) && (l[i - 1]'(by omega)).op != 28)
def layBadID (l : List Inst) (i : Nat) : Bool := if h : i < l.length then layBadI l i h else false
def lastOk (l : List Inst) : Bool := if h : 0 < l.length then isLastR (l[l.length - 1]'(by omega)).op else false
def blockI (l : List Inst) : Bool := lastOk l && (List.range l.length).all fun i => !(layBadID l i)
theorem blockI_eq (l : List Inst) : blockI l = blockOk l := by
  unfold blockI blockOk lastOk
  by_cases hl : 0 < l.length
  · rw [dif_pos hl, Bool.eq_iff_iff]
    simp only [Bool.and_eq_true, List.all_eq_true, List.mem_range, Bool.not_eq_true', bne_iff_ne, ne_eq]
    constructor
    · rintro ⟨h1, h2⟩
      refine ⟨by omega, fun i hi => ?_⟩
      have h3 := h2 i hi
      simp only [layBadID, dif_pos hi, layBadI, Bool.or_eq_false_iff] at h3
      simp only [layBadD, dif_pos hi, layBad, Bool.or_eq_false_iff]
      refine ⟨?_, ?_⟩
      · by_cases hlast : i = l.length - 1
        · subst hlast
          rw [h1]
          have : (((l.length - 1 : Nat) : Int) == (l.length : Int) - 1) = true := by rw [beq_iff_eq]; omega
          rw [this]; rfl
        · have h4 := h3.1
          rw [decide_eq_true (show (i : Int) < (l.length : Int) - 1 by omega), Bool.true_and] at h4
          have : ((i : Int) == (l.length : Int) - 1) = false := by rw [beq_eq_false_iff_ne]; omega
          rw [h4, this]; rfl
      · have h4 := h3.2
        rw [Bool.and_comm (decide _)]
        exact h4
    · rintro ⟨_, h2⟩
      refine ⟨?_, fun i hi => ?_⟩
      · have h3 := h2 (l.length - 1) (by omega)
        simp only [layBadD, dif_pos (show l.length - 1 < l.length by omega), layBad, Bool.or_eq_false_iff] at h3
        have h4 := h3.1
        have : (((l.length - 1 : Nat) : Int) == (l.length : Int) - 1) = true := by rw [beq_iff_eq]; omega
        rw [this] at h4
        simpa using h4
      · have h3 := h2 i hi
        simp only [layBadD, dif_pos hi, layBad, Bool.or_eq_false_iff] at h3
        simp only [layBadID, dif_pos hi, layBadI, Bool.or_eq_false_iff]
        refine ⟨?_, ?_⟩
        · by_cases hlast : i = l.length - 1
          · rw [decide_eq_false (show ¬ (i : Int) < (l.length : Int) - 1 by omega)]; rfl
          · have : ((i : Int) == (l.length : Int) - 1) = false := by rw [beq_eq_false_iff_ne]; omega
            rw [this] at h3
            have h4 := h3.1
            rw [show isLastR l[i].op = false by simpa using h4]; simp
        · have h4 := h3.2
          rw [Bool.and_comm (decide _)] at h4
          exact h4
  · rw [dif_neg hl]
    have : l.length = 0 := by omega
    simp [this]
theorem blocksI_eq (f : Fn) : f.blocks.all blockI = f.blocks.all blockOk := by
  congr 1; funext l; exact blockI_eq l
def phiN (f : Fn) (n : Nat) : Bool := ((placed f).take n).all fun p => phiOk f p.2.1 p.1
theorem phiN_succ {f : Fn} {n : Nat} {p : Inst × Nat × Nat} (h : (placed f)[n]? = some p) : phiN f (n + 1) = (phiN f n && phiOk f p.2.1 p.1) := by
  obtain ⟨hn, e⟩ := List.getElem?_eq_some_iff.1 h
  rw [phiN, phiN, List.take_succ_eq_append_getElem hn, List.all_append]; simp [e]
theorem phi_all (f : Fn) : ((placed f).all fun p => phiOk f p.2.1 p.1) = (List.range f.blocks.length).all (phisOk f) := by
  rw [Bool.eq_iff_iff]
  simp only [List.all_eq_true, List.mem_range]
  constructor
  · intro h b hb
    unfold phisOk
    rw [List.all_eq_true]
    intro x hx
    have e : f.blocks.getD b [] = f.blocks[b] := by simp [hb]
    rw [e] at hx
    obtain ⟨i, hi, rfl⟩ := List.getElem_of_mem hx
    have := h _ (List.mem_of_getElem? (placed_get hb hi))
    exact this
  · intro h p hp
    obtain ⟨n, hn, rfl⟩ := List.getElem_of_mem hp
    obtain ⟨hb, hi, e1, _⟩ := placed_in (f := f) (n := n) (x := ((placed f)[n]).1) (b := ((placed f)[n]).2.1) (i := ((placed f)[n]).2.2) (List.getElem?_eq_getElem hn)
    have h2 := h _ hb
    unfold phisOk at h2
    rw [List.all_eq_true] at h2
    have e : f.blocks.getD ((placed f)[n]).2.1 [] = f.blocks[((placed f)[n]).2.1] := by simp [hb]
    rw [e] at h2
    rw [e1]
    exact h2 _ (List.getElem_mem hi)
theorem rules_eq (f : Fn) : rulesR f = (f.blocks.all blockI && (beforeR (graphR f) 0).length == 0 && phiN f (itemsA f).length) := by
  unfold rulesR phiN
  rw [List.take_of_length_le (by rw [placed_len, items_len]; omega), phi_all, blocksI_eq]
theorem blockI_ne {f : Fn} (h : f.blocks.all blockI = true) : ∀ l ∈ f.blocks, l ≠ [] := blockOk_ne (by rw [← blocksI_eq]; exact h)
end Go.AL
