/- FuzzInputs answers true for every function and number, and its arguments read afterwards as they read before. -/
import Derived.Test.YtcpeehkeilfbfaaGreatP5
import Derived.Deep.Slices
import Derived.ProofKit
import Derived.Below
import Derived.Test.YtcpeehkeilfbfaaGreatRows
import Derived.OpenShut
import Derived.ChangeOld
set_option linter.unusedSimpArgs false
set_option linter.unusedVariables false
namespace Go.AL
open Go.Proofs
theorem u42 : Tryz.prog.underlying 42 = some Tryz.t42.desc := by kernel_rfl
theorem s42 : (Tryz.prog.info? 42).map (·.size) = some 1 := by kernel_rfl
theorem z42 : (Tryz.prog.info? 42).bind (·.zero) = Tryz.t42.zero := by kernel_rfl
theorem b42 : ((Tryz.prog.info? 42).map fun i => Nat.ble i.bytes 1000) = some true := by kernel_rfl
theorem e19 : Enters Tryz.prog 19 := enters_of Tryz.func19 (by kernel_rfl) (by kernel_rfl)
set_option maxRecDepth 100000 in
set_option maxHeartbeats 4000000 in
theorem c19 (f : Fn) (n : Int) (hf : f.Fits) : Ok Tryz.prog 19 [.dat none (fnD f), .v (.int .i64 n)] [] (.tup [.row 19001 2 0 (inputsL f n).length, .v (.int .i64 (inErrR f n))]) [(19001, .row 2 ((inputsL f n).map inD))] := by
  refine ok_of e19 Tryz.func19 rfl (by kernel_rfl) ?_
  intro cx hP hro hN hvk
  obtain ⟨P, ro, w0, Bin, N, R0, tk0, bl0, vk⟩ := cx
  subst hP hro hN
  have hvkd := vkd_of hvk
  refine aw_seq ?_
  refine aw_region ?_
  refine al_opc (k := 101) rfl rfl rfl ((hvk _).trans rfl) (opC_box rfl (ev_tmp rfl) rfl) ?_
  refine al_op rfl rfl rfl (opP_assign rfl (ev_const rfl)) ?_
  refine al_op rfl rfl rfl (opP_assign rfl (ev_const rfl)) ?_
  refine al_nil ?_
  refine aw_seq ?_
  refine aw_seq ?_
  refine aw_region ?_
  refine al_op rfl rfl rfl (opP_load_ptn rfl u27 rfl s27 (ev_tmp rfl) rfl rfl) ?_
  refine al_call (id) rfl rfl rfl (callOf_func rfl (.cons (ev_tmp rfl) .nil)) (c50 f hf) (by repeat' (first | refine Vw.stDOf ?_ | refine Vw.ptOf rfl rfl rfl ?_ | refine Vw.prvOf ?_ | refine Vw.cloOf ?_ | constructor)) (fun _ h => absurd h (by simp)) rfl rfl rfl (fun _ h => absurd h (by simp)) ?_
  refine al_op rfl rfl rfl (opP_assign rfl (ev_tmp rfl)) ?_
  refine al_nil ?_
  refine aw_seq ?_
  refine aw_region ?_
  refine al_op rfl rfl rfl (opP_move rfl (ev_tmp rfl)) ?_
  refine al_op rfl rfl rfl (opP_bin rfl (ev_tmp rfl) (ev_const rfl) rfl) ?_
  refine al_nil ?_
  refine aw_cond rfl (fun h1 => ?_) (fun h1 => ?_)
  · refine aw_seq ?_
    refine aw_region ?_
    refine al_op rfl rfl rfl (opP_move rfl (ev_tmp rfl)) ?_
    refine al_op rfl rfl rfl (opP_assign rfl (ev_const rfl)) ?_
    refine al_imp (imp_nilrow (k := 19001) (es := 2) (t := 4) ((hvk _).trans rfl) rfl) ?_
    refine al_op rfl rfl rfl (opP_assign rfl (ev_tmp rfl)) ?_
    refine al_nil ?_
    refine aw_ret ?_
    have hv : validateR f ≠ 0 := by simpa using h1
    have e1 : inErrR f n = validateR f := by rw [inErrR, if_pos hv]
    have e2 : inputsL f n = [] := by rw [inputsL, if_neg (by rw [e1]; exact hv)]
    rw [e1, e2]; exact ret_id _ (.tmp rfl (.tmp rfl .nil)) rfl ⟨rfl, trivial⟩ rfl rfl
  have hv : validateR f = 0 := by simpa using h1
  have hV := validate_zero hv
  refine aw_skip ?_
  refine aw_seq ?_
  refine aw_seq ?_
  refine aw_region ?_
  refine al_op rfl rfl rfl (opP_move rfl (ev_tmp rfl)) ?_
  refine al_op rfl rfl rfl (opP_bin rfl (ev_tmp rfl) (ev_const rfl) rfl) ?_
  refine al_op rfl rfl rfl (opP_move rfl (ev_tmp rfl)) ?_
  refine al_opg rfl rfl rfl rfl rfl rfl (opP_move rfl (ev_tmp rfl)) ?_
  refine al_opg rfl rfl rfl rfl rfl rfl (opP_bin rfl (ev_when rfl id) (ev_const rfl) rfl) ?_
  refine al_op rfl rfl rfl (opP_or rfl (ev_tmp rfl) (ev_when rfl id)) ?_
  refine al_nil ?_
  refine aw_cond rfl (fun h2 => ?_) (fun h2 => ?_)
  · refine aw_seq ?_
    refine aw_region ?_
    refine al_op rfl rfl rfl (opP_assign rfl (ev_const rfl)) ?_
    refine al_imp (imp_nilrow (k := 19001) (es := 2) (t := 4) ((hvk _).trans rfl) rfl) ?_
    refine al_op rfl rfl rfl (opP_assign rfl (ev_const rfl)) ?_
    refine al_nil ?_
    refine aw_ret ?_
    have e1 : inErrR f n = 1 := by rw [inErrR, if_neg (by rw [hv]; decide), if_pos (by simp at h2; omega)]
    have e2 : inputsL f n = [] := by rw [inputsL, if_neg (by rw [e1]; decide)]
    rw [e1, e2]; exact ret_id _ (.tmp rfl (.tmp rfl .nil)) rfl ⟨rfl, trivial⟩ rfl rfl
  have hn : 0 ≤ n ∧ n ≤ 64 := by simp at h2; omega
  have e1 : inErrR f n = 0 := by rw [inErrR, if_neg (by rw [hv]; decide), if_neg (by omega)]
  have e2 : inputsL f n = inputsR f n.toNat := by rw [inputsL, if_pos e1]
  have hfp := hf.params
  have hfs := hf.slots
  refine aw_skip ?_
  refine aw_seq ?_
  refine aw_region ?_
  refine al_opc (k := 107) rfl rfl rfl ((hvk _).trans rfl) (opC_alloc rfl z36) ?_
  refine al_store_pt rfl rfl rfl s36 (ev_tmp rfl) (ev_const rfl) rfl rfl rfl rfl rfl rfl ?_
  refine al_nil ?_
  refine aw_seq ?_
  refine aw_region ?_
  refine al_op rfl rfl rfl (opP_makeFunc rfl (.cons (ev_tmp rfl) .nil)) ?_
  refine al_op rfl rfl rfl (opP_assign rfl (ev_tmp rfl)) ?_
  refine al_nil ?_
  refine aw_seq ?_
  refine aw_region ?_
  refine al_op rfl rfl rfl (opP_assign rfl (ev_const rfl)) ?_
  refine al_imp (imp_nilrow (k := 19001) (es := 2) (t := 9) ((hvk _).trans rfl) rfl) ?_
  refine al_nil ?_
  refine aw_seq ?_
  refine aw_seq ?_
  refine aw_region ?_
  refine al_op rfl rfl rfl (opP_move rfl (ev_tmp rfl)) ?_
  refine al_op rfl rfl rfl (opP_move rfl (ev_const rfl)) ?_
  refine al_nil ?_
  refine aw_block ?_
  refine aw_loop' (α := Nat) (fun k => [(2, .pt 101 0), (7, .pt 107 0), (8, .clo 51 [.pt 107 0]), (9, .row 19001 2 0 k), (29, .v (.int .i64 n)), (30, .v (.int .i64 k))]) (fun k => [(101, .var [.dat none (.sl 1 (ints f.params)), .v (.int .i64 f.ret), .dat none (.sl 1 (ints f.slots)), .dat none (.sl 1 (f.blocks.map instsD))]), (107, .var [.v (.int .u32 (seed0 k))]), (19001, .row 2 ((inputsR f k).map inD))]) (fun k => (k : Int) ≤ n) (fun k => n.toNat - k) 0 (by simpa using hn.1) id (Fit.of (by repeat (first | exact trivial | refine ⟨rfl, ?_⟩)) (by repeat (first | exact trivial | refine ⟨rfl, ?_⟩)) rfl rfl) ?_
  rintro k hk
  refine aw_seq ?_
  refine aw_region ?_
  refine al_op rfl rfl rfl (opP_bin rfl (ev_tmp rfl) (ev_tmp rfl) rfl) ?_
  refine al_nil ?_
  refine aw_seq ?_
  refine aw_condS rfl (fun h3 => ?_) (fun h3 => ?_)
  · have ek : k = n.toNat := by simp at h3; omega
    subst ek
    refine aw_exit ?_
    refine aw_seq ?_
    refine aw_region ?_
    refine al_op rfl rfl rfl (opP_move rfl (ev_tmp rfl)) ?_
    refine al_op rfl rfl rfl (opP_assign rfl (ev_tmp rfl)) ?_
    refine al_op rfl rfl rfl (opP_assign rfl (ev_const rfl)) ?_
    refine al_nil ?_
    refine aw_ret ?_
    rw [e1, e2, inputsR_len]
    exact ret_id _ (.tmp rfl (.tmp rfl .nil)) rfl ⟨rfl, trivial⟩ rfl rfl
  have hkn : (k : Int) < n := by simpa using h3
  refine aw_skip ?_
  refine aw_seq ?_
  refine aw_block ?_
  refine aw_seq ?_
  refine aw_region ?_
  refine al_op rfl rfl rfl (opP_move rfl (ev_tmp rfl)) ?_
  refine al_op rfl rfl rfl (opP_assign rfl (ev_tmp rfl)) ?_
  refine al_nil ?_
  refine aw_seq ?_
  refine aw_region ?_
  refine al_opc (k := 111) rfl rfl rfl ((hvk _).trans rfl) (opC_alloc rfl z49) ?_
  refine al_imp (imp_nilcell (k := 112) (es := 1) (j := 111) (oo := 0) ((hvk _).trans rfl) rfl rfl rfl) ?_
  refine al_imp (imp_nilcell (k := 113) (es := 1) (j := 111) (oo := 1) ((hvk _).trans rfl) rfl rfl rfl) ?_
  refine al_nil ?_
  refine aw_seq ?_
  refine aw_seq ?_
  refine aw_region ?_
  refine al_op rfl rfl rfl (opP_fieldAddr rfl (ev_tmp rfl) u27 rfl rfl s22 rfl) ?_
  refine al_op rfl rfl rfl (opP_load_pt rfl u22 rfl (ev_tmp rfl) rfl rfl) ?_
  refine al_op rfl rfl rfl (opP_len rfl u22 (ev_tmp rfl) (by first | exact lenA_ints | exact lenA_map | rfl)) ?_
  refine al_op rfl rfl rfl (opP_move rfl (ev_const rfl)) ?_
  refine al_nil ?_
  refine aw_block ?_
  refine aw_loop' (α := Nat) (fun i => [(2, .pt 101 0), (7, .pt 107 0), (8, .clo 51 [.pt 107 0]), (9, .row 19001 2 0 k), (29, .v (.int .i64 n)), (30, .v (.int .i64 k)), (10, .v (.int .i64 k)), (11, .pt 111 0), (34, .dat none (.sl 1 (ints f.params))), (35, .v (.int .i64 f.params.length)), (36, .v (.int .i64 i))]) (fun i => [(101, .var [.dat none (.sl 1 (ints f.params)), .v (.int .i64 f.ret), .dat none (.sl 1 (ints f.slots)), .dat none (.sl 1 (f.blocks.map instsD))]), (107, .var [.v (.int .u32 (seedAt (seed0 k) i))]), (19001, .row 2 ((inputsR f k).map inD)), (111, .var [.row 112 1 0 i, .row 113 1 0 0]), (112, .row 1 (words (argsR f (seed0 k) i))), (113, .row 1 [])]) (fun i => i ≤ f.params.length) (fun i => f.params.length - i) 0 (Nat.zero_le _) id (Fit.of (by repeat (first | exact trivial | refine ⟨rfl, ?_⟩)) (by repeat (first | exact trivial | refine ⟨rfl, ?_⟩)) rfl rfl) ?_
  rintro i hi
  refine aw_seq ?_
  refine aw_region ?_
  refine al_op rfl rfl rfl (opP_bin rfl (ev_tmp rfl) (ev_tmp rfl) rfl) ?_
  refine al_nil ?_
  refine aw_seq ?_
  refine aw_cond rfl (fun h4 => ?_) (fun h4 => ?_)
  · have hip : i < f.params.length := by simpa using h4
    refine aw_skip ?_
    refine aw_seq ?_
    refine aw_block ?_
    refine aw_seq ?_
    refine aw_region ?_
    refine al_op rfl rfl rfl (opP_index_dat rfl u22 s3 (ev_tmp rfl) (ev_tmp rfl) (fun _ => Int.natCast_nonneg _) (fun _ => ints_get hip)) ?_
    refine al_op rfl rfl rfl (opP_load_pr rfl u3 rfl (ev_tmp rfl)) ?_
    refine al_op rfl rfl rfl (opP_assign rfl (ev_tmp rfl)) ?_
    refine al_nil ?_
    refine aw_draw mixed ?_
    refine ad_free (i := 0) rfl rfl rfl rfl rfl rfl rfl (by intro c s h; first | exact h | (obtain ⟨_, _, h, _⟩ := h; exact h)) (freeD_op rfl (opM_fieldAddr rfl (ev_tmp rfl) u49 rfl rfl s46 rfl)) ?_
    refine ad_free (i := 2) rfl rfl rfl rfl rfl rfl rfl (by intro c s h; first | exact h | (obtain ⟨_, _, h, _⟩ := h; exact h)) (freeD_op rfl (opM_move rfl (ev_tmp rfl))) ?_
    refine ad_free (i := 3) rfl rfl rfl rfl rfl rfl rfl (by intro c s h; first | exact h | (obtain ⟨_, _, h, _⟩ := h; exact h)) (freeD_op rfl (opM_move rfl (ev_tmp rfl))) ?_
    refine ad_all (l := [1, 4]) rfl (by simp) (.cons rfl ?_ (.cons rfl ?_ .nil))
    · skip
      refine al_op rfl rfl rfl (opP_load_pt rfl u46 rfl (ev_tmp rfl) rfl rfl) ?_
      refine al_nil ?_
      refine ad_one rfl rfl ?_
      refine al_call (fun _ => 107) rfl rfl rfl (callOf_clo rfl (ev_tmp rfl) (.cons (ev_tmp rfl) .nil)) (c51 f.params[i] (seedAt (seed0 k) (i)) (seedAt_u32 (seed0_u32 k) _)) (.cons (.v _) (.cons (.ptL (ρ := fun _ => 107) 1 0 rfl) .nil)) (fun p hp => by simp at hp; subst hp; exact Lend.varOf rfl (.vw (.v _) (.nil _))) rfl rfl rfl (fun p hp => .inl (by simp at hp; subst hp; rfl)) ?_
      refine al_nil ?_
      refine ad_one rfl rfl ?_
      refine al_opc (k := 120) rfl rfl rfl ((hvk _).trans rfl) (opC_buildSlice (ds := [.int .u32 _]) rfl u46 s36 z36 rfl rfl (.cons (ev_tmp rfl) .nil) rfl rfl (.cons (.v _ rfl) .nil) rfl rfl rfl) ?_
      refine al_nil ?_
      refine ad_one rfl rfl ?_
      refine al_opc rfl rfl rfl ((hvk _).trans rfl) (opC_append rfl u46 s36 z36 rfl b36 (ev_tmp rfl) (ev_tmp rfl) (.row 112 1 _ _ rfl (by rw [words_len, argsR_len])) (.row 120 1 _ _ rfl rfl) rfl rfl (by rw [words_len, argsR_len]; simp; omega) rfl) ?_
      refine al_nil ?_
      refine ad_free (i := 7) rfl rfl rfl rfl rfl rfl rfl (by intro c s h; first | exact h | (obtain ⟨_, _, h, _⟩ := h; exact h)) (freeD_op rfl (opM_fieldAddr rfl (ev_tmp rfl) u49 rfl rfl s46 rfl)) ?_
      refine ad_one rfl rfl ?_
      refine al_store_pt rfl rfl rfl s46 (ev_tmp rfl) (ev_tmp rfl) rfl rfl rfl rfl rfl rfl ?_
      refine al_nil ?_
      refine ad_done rfl ?_
      refine aw_region ?_
      refine al_op rfl rfl rfl (opP_bin rfl (ev_tmp rfl) (ev_const rfl) rfl) ?_
      refine al_op rfl rfl rfl (opP_move rfl (ev_tmp rfl)) ?_
      refine al_nil ?_
      refine ⟨i + 1, id, hip, by omega, Fit.of ⟨rfl, rfl, rfl, ?_, ?_, rfl, trivial⟩ ⟨rfl, rfl, rfl, rfl, rfl, rfl, rfl, rfl, rfl, rfl, by rw [← wrapS (by omega)]; rfl, trivial⟩ rfl rfl⟩
      · show some (O.var [A.row 112 1 0 ((words (argsR f (seed0 k) i)).length + 1), _]) = _
        rw [words_len, argsR_len]; rfl
      · rw [argsR_succ f _ hip, words_append]; rfl
    · skip
      refine al_call (fun _ => 107) rfl rfl rfl (callOf_clo rfl (ev_tmp rfl) (.cons (ev_tmp rfl) .nil)) (c51 f.params[i] (seedAt (seed0 k) (i)) (seedAt_u32 (seed0_u32 k) _)) (.cons (.v _) (.cons (.ptL (ρ := fun _ => 107) 1 0 rfl) .nil)) (fun p hp => by simp at hp; subst hp; exact Lend.varOf rfl (.vw (.v _) (.nil _))) rfl rfl rfl (fun p hp => .inl (by simp at hp; subst hp; rfl)) ?_
      refine al_nil ?_
      refine ad_all (l := [1, 5]) rfl (by simp) (.cons rfl ?_ (.cons rfl ?_ .nil))
      · skip
        refine al_op rfl rfl rfl (opP_load_pt rfl u46 rfl (ev_tmp rfl) rfl rfl) ?_
        refine al_nil ?_
        refine ad_one rfl rfl ?_
        refine al_opc (k := 120) rfl rfl rfl ((hvk _).trans rfl) (opC_buildSlice (ds := [.int .u32 _]) rfl u46 s36 z36 rfl rfl (.cons (ev_tmp rfl) .nil) rfl rfl (.cons (.v _ rfl) .nil) rfl rfl rfl) ?_
        refine al_nil ?_
        refine ad_one rfl rfl ?_
        refine al_opc rfl rfl rfl ((hvk _).trans rfl) (opC_append rfl u46 s36 z36 rfl b36 (ev_tmp rfl) (ev_tmp rfl) (.row 112 1 _ _ rfl (by rw [words_len, argsR_len])) (.row 120 1 _ _ rfl rfl) rfl rfl (by rw [words_len, argsR_len]; simp; omega) rfl) ?_
        refine al_nil ?_
        refine ad_free (i := 7) rfl rfl rfl rfl rfl rfl rfl (by intro c s h; first | exact h | (obtain ⟨_, _, h, _⟩ := h; exact h)) (freeD_op rfl (opM_fieldAddr rfl (ev_tmp rfl) u49 rfl rfl s46 rfl)) ?_
        refine ad_one rfl rfl ?_
        refine al_store_pt rfl rfl rfl s46 (ev_tmp rfl) (ev_tmp rfl) rfl rfl rfl rfl rfl rfl ?_
        refine al_nil ?_
        refine ad_done rfl ?_
        refine aw_region ?_
        refine al_op rfl rfl rfl (opP_bin rfl (ev_tmp rfl) (ev_const rfl) rfl) ?_
        refine al_op rfl rfl rfl (opP_move rfl (ev_tmp rfl)) ?_
        refine al_nil ?_
        refine ⟨i + 1, id, hip, by omega, Fit.of ⟨rfl, rfl, rfl, ?_, ?_, rfl, trivial⟩ ⟨rfl, rfl, rfl, rfl, rfl, rfl, rfl, rfl, rfl, rfl, by rw [← wrapS (by omega)]; rfl, trivial⟩ rfl rfl⟩
        · show some (O.var [A.row 112 1 0 ((words (argsR f (seed0 k) i)).length + 1), _]) = _
          rw [words_len, argsR_len]; rfl
        · rw [argsR_succ f _ hip, words_append]; rfl
      · skip
        refine al_opc (k := 120) rfl rfl rfl ((hvk _).trans rfl) (opC_buildSlice (ds := [.int .u32 _]) rfl u46 s36 z36 rfl rfl (.cons (ev_tmp rfl) .nil) rfl rfl (.cons (.v _ rfl) .nil) rfl rfl rfl) ?_
        refine al_nil ?_
        refine ad_one rfl rfl ?_
        refine al_op rfl rfl rfl (opP_load_pt rfl u46 rfl (ev_tmp rfl) rfl rfl) ?_
        refine al_nil ?_
        refine ad_one rfl rfl ?_
        refine al_opc rfl rfl rfl ((hvk _).trans rfl) (opC_append rfl u46 s36 z36 rfl b36 (ev_tmp rfl) (ev_tmp rfl) (.row 112 1 _ _ rfl (by rw [words_len, argsR_len])) (.row 120 1 _ _ rfl rfl) rfl rfl (by rw [words_len, argsR_len]; simp; omega) rfl) ?_
        refine al_nil ?_
        refine ad_free (i := 7) rfl rfl rfl rfl rfl rfl rfl (by intro c s h; first | exact h | (obtain ⟨_, _, h, _⟩ := h; exact h)) (freeD_op rfl (opM_fieldAddr rfl (ev_tmp rfl) u49 rfl rfl s46 rfl)) ?_
        refine ad_one rfl rfl ?_
        refine al_store_pt rfl rfl rfl s46 (ev_tmp rfl) (ev_tmp rfl) rfl rfl rfl rfl rfl rfl ?_
        refine al_nil ?_
        refine ad_done rfl ?_
        refine aw_region ?_
        refine al_op rfl rfl rfl (opP_bin rfl (ev_tmp rfl) (ev_const rfl) rfl) ?_
        refine al_op rfl rfl rfl (opP_move rfl (ev_tmp rfl)) ?_
        refine al_nil ?_
        refine ⟨i + 1, id, hip, by omega, Fit.of ⟨rfl, rfl, rfl, ?_, ?_, rfl, trivial⟩ ⟨rfl, rfl, rfl, rfl, rfl, rfl, rfl, rfl, rfl, rfl, by rw [← wrapS (by omega)]; rfl, trivial⟩ rfl rfl⟩
        · show some (O.var [A.row 112 1 0 ((words (argsR f (seed0 k) i)).length + 1), _]) = _
          rw [words_len, argsR_len]; rfl
        · rw [argsR_succ f _ hip, words_append]; rfl
  have ei : i = f.params.length := by simp at h4; omega
  subst ei
  refine aw_exit ?_
  refine aw_seq ?_
  refine aw_seq ?_
  refine aw_region ?_
  refine al_op rfl rfl rfl (opP_fieldAddr rfl (ev_tmp rfl) u27 rfl rfl s22 rfl) ?_
  refine al_op rfl rfl rfl (opP_load_pt rfl u22 rfl (ev_tmp rfl) rfl rfl) ?_
  refine al_op rfl rfl rfl (opP_len rfl u22 (ev_tmp rfl) (by first | exact lenA_ints | exact lenA_map | rfl)) ?_
  refine al_op rfl rfl rfl (opP_move rfl (ev_const rfl)) ?_
  refine al_nil ?_
  refine aw_block ?_
  refine aw_loop' (α := Nat) (fun t => [(2, .pt 101 0), (7, .pt 107 0), (8, .clo 51 [.pt 107 0]), (9, .row 19001 2 0 k), (29, .v (.int .i64 n)), (30, .v (.int .i64 k)), (10, .v (.int .i64 k)), (11, .pt 111 0), (50, .dat none (.sl 1 (ints f.slots))), (51, .v (.int .i64 f.slots.length)), (52, .v (.int .i64 t))]) (fun t => [(101, .var [.dat none (.sl 1 (ints f.params)), .v (.int .i64 f.ret), .dat none (.sl 1 (ints f.slots)), .dat none (.sl 1 (f.blocks.map instsD))]), (107, .var [.v (.int .u32 (seedAt (seed0 k) (offR f t)))]), (19001, .row 2 ((inputsR f k).map inD)), (111, .var [.row 112 1 0 f.params.length, .row 113 1 0 t]), (112, .row 1 (words (argsR f (seed0 k) f.params.length))), (113, .row 1 ((memsR f (seed0 k) t).map rowD))]) (fun t => t ≤ f.slots.length) (fun t => f.slots.length - t) 0 (Nat.zero_le _) id (Fit.of ⟨rfl, by rw [offR_zero] <;> rfl, rfl, rfl, rfl, rfl, trivial⟩ (by repeat (first | exact trivial | refine ⟨rfl, ?_⟩)) rfl rfl) ?_
  rintro t ht
  refine aw_seq ?_
  refine aw_region ?_
  refine al_op rfl rfl rfl (opP_bin rfl (ev_tmp rfl) (ev_tmp rfl) rfl) ?_
  refine al_nil ?_
  refine aw_seq ?_
  refine aw_condS rfl (fun h5 => ?_) (fun h5 => ?_)
  · have et : t = f.slots.length := by simp at h5; omega
    subst et
    refine aw_exit ?_
    refine aw_seq ?_
    refine aw_region ?_
    refine al_op rfl rfl rfl (opP_move rfl (ev_tmp rfl)) ?_
    refine al_op rfl rfl rfl (opP_load_ptn rfl u49 rfl s49 (ev_tmp rfl) rfl rfl) ?_
    refine al_opc (k := 124) rfl rfl rfl ((hvk _).trans rfl) (opC_buildSlice (ds := [.agg [.sl 1 (words (argsR f (seed0 k) f.params.length)), .sl 1 ((memsR f (seed0 k) f.slots.length).map rowD)]]) rfl u42 s49 z49 rfl rfl (.cons (ev_tmp rfl) .nil) rfl rfl (.cons (.row 112 1 _ _ rfl (by rw [words_len, argsR_len])) (.cons (.row 113 1 _ _ rfl (by rw [List.length_map, memsR_len])) .nil)) rfl rfl rfl) ?_
    refine al_opc rfl rfl rfl ((hvk _).trans rfl) (opC_append rfl u42 s49 z49 rfl b49 (ev_tmp rfl) (ev_tmp rfl) (.row 19001 2 _ _ rfl (by rw [List.length_map, inputsR_len])) (.row 124 2 _ _ rfl rfl) rfl rfl (by rw [List.length_map, inputsR_len]; simp; omega) rfl) ?_
    refine al_op rfl rfl rfl (opP_assign rfl (ev_tmp rfl)) ?_
    refine al_nil ?_
    refine aw_region ?_
    refine al_op rfl rfl rfl (opP_move rfl (ev_tmp rfl)) ?_
    refine al_op rfl rfl rfl (opP_convert rfl (by rw [u3]; rfl) u36 (ev_tmp rfl)) ?_
    refine al_op rfl rfl rfl (opP_bin rfl (ev_tmp rfl) (ev_const rfl) rfl) ?_
    refine al_op rfl rfl rfl (opP_bin rfl (ev_tmp rfl) (ev_const rfl) rfl) ?_
    refine al_store_pt rfl rfl rfl s36 (ev_tmp rfl) (ev_tmp rfl) rfl rfl rfl rfl rfl rfl ?_
    refine al_nil ?_
    refine aw_region ?_
    refine al_op rfl rfl rfl (opP_bin rfl (ev_tmp rfl) (ev_const rfl) rfl) ?_
    refine al_op rfl rfl rfl (opP_move rfl (ev_tmp rfl)) ?_
    refine al_nil ?_
    refine ⟨k + 1, id, by omega, by omega, Fit.of ⟨rfl, ?_, ?_, trivial⟩ ⟨rfl, rfl, rfl, ?_, rfl, by rw [← wrapS (by omega)]; rfl, trivial⟩ rfl rfl⟩
    · show some (O.var [.v (.int .u32 (IntKind.u32.wrap (IntKind.u32.wrap (IntKind.u32.wrap (k : Int) * 2654435761) + 12345)))]) = _
      rw [seed_round]
    · rw [inputsR_succ, List.map_append]; rfl
    · show A.row 19001 2 0 (((inputsR f k).map inD).length + 1) = _
      rw [List.length_map, inputsR_len]
  have hts : t < f.slots.length := by simpa using h5
  have hz := hV.slot (List.getElem_mem hts)
  refine aw_skip ?_
  refine aw_seq ?_
  refine aw_block ?_
  refine aw_seq ?_
  refine aw_region ?_
  refine al_op rfl rfl rfl (opP_index_dat rfl u22 s3 (ev_tmp rfl) (ev_tmp rfl) (fun _ => Int.natCast_nonneg _) (fun _ => ints_get hts)) ?_
  refine al_op rfl rfl rfl (opP_load_pr rfl u3 rfl (ev_tmp rfl)) ?_
  refine al_op rfl rfl rfl (opP_assign rfl (ev_tmp rfl)) ?_
  refine al_nil ?_
  refine aw_seq ?_
  refine aw_region ?_
  refine al_op rfl rfl rfl (opP_assign rfl (ev_const rfl)) ?_
  refine al_imp (imp_nilrow (k := 114) (es := 1) (t := 16) ((hvk _).trans rfl) rfl) ?_
  refine al_nil ?_
  refine aw_seq ?_
  refine aw_seq ?_
  refine aw_region ?_
  refine al_op rfl rfl rfl (opP_move rfl (ev_tmp rfl)) ?_
  refine al_op rfl rfl rfl (opP_move rfl (ev_const rfl)) ?_
  refine al_nil ?_
  refine aw_block ?_
  refine aw_loop' (α := Nat) (fun j => [(2, .pt 101 0), (7, .pt 107 0), (8, .clo 51 [.pt 107 0]), (9, .row 19001 2 0 k), (29, .v (.int .i64 n)), (30, .v (.int .i64 k)), (10, .v (.int .i64 k)), (11, .pt 111 0), (50, .dat none (.sl 1 (ints f.slots))), (51, .v (.int .i64 f.slots.length)), (52, .v (.int .i64 t)), (16, .row 114 1 0 j), (56, .v (.int .i64 f.slots[t])), (57, .v (.int .i64 j))]) (fun j => [(101, .var [.dat none (.sl 1 (ints f.params)), .v (.int .i64 f.ret), .dat none (.sl 1 (ints f.slots)), .dat none (.sl 1 (f.blocks.map instsD))]), (107, .var [.v (.int .u32 (seedAt (seed0 k) (offR f t + j)))]), (19001, .row 2 ((inputsR f k).map inD)), (111, .var [.row 112 1 0 f.params.length, .row 113 1 0 t]), (112, .row 1 (words (argsR f (seed0 k) f.params.length))), (113, .row 1 ((memsR f (seed0 k) t).map rowD)), (114, .row 1 (ints (rowR (seed0 k) (offR f t) j)))]) (fun j => (j : Int) ≤ f.slots[t]) (fun j => f.slots[t].toNat - j) 0 (by omega) id (Fit.of (by repeat (first | exact trivial | refine ⟨rfl, ?_⟩)) (by repeat (first | exact trivial | refine ⟨rfl, ?_⟩)) rfl rfl) ?_
  rintro j hj
  refine aw_seq ?_
  refine aw_region ?_
  refine al_op rfl rfl rfl (opP_bin rfl (ev_tmp rfl) (ev_tmp rfl) rfl) ?_
  refine al_nil ?_
  refine aw_seq ?_
  refine aw_cond rfl (fun h6 => ?_) (fun h6 => ?_)
  · have hjz : (j : Int) < f.slots[t] := by simpa using h6
    refine aw_skip ?_
    refine aw_seq ?_
    refine aw_block ?_
    refine aw_region ?_
    refine al_op rfl rfl rfl (opP_move rfl (ev_tmp rfl)) ?_
    refine al_op rfl rfl rfl (opP_move rfl (ev_tmp rfl)) ?_
    refine al_call (fun _ => 107) rfl rfl rfl (callOf_clo rfl (ev_tmp rfl) (.cons (ev_const rfl) .nil)) (c51 8 (seedAt (seed0 k) (offR f t + j)) (seedAt_u32 (seed0_u32 k) _)) (.cons (.v _) (.cons (.ptL (ρ := fun _ => 107) 1 0 rfl) .nil)) (fun p hp => by simp at hp; subst hp; exact Lend.varOf rfl (.vw (.v _) (.nil _))) rfl rfl rfl (fun p hp => .inl (by simp at hp; subst hp; rfl)) ?_
    refine al_op rfl rfl rfl (opP_convert rfl (by rw [u36]; rfl) u3 (ev_tmp rfl)) ?_
    refine al_opc (k := 123) rfl rfl rfl ((hvk _).trans rfl) (opC_buildSlice (ds := [.int .i64 _]) rfl u22 s3 z3 rfl rfl (.cons (ev_tmp rfl) .nil) rfl rfl (.cons (.v _ rfl) .nil) rfl rfl rfl) ?_
    refine al_opc rfl rfl rfl ((hvk _).trans rfl) (opC_append rfl u22 s3 z3 rfl b3 (ev_tmp rfl) (ev_tmp rfl) (.row 114 1 _ _ rfl (by rw [ints_len, rowR_len])) (.row 123 1 _ _ rfl rfl) rfl rfl (by rw [ints_len, rowR_len]; simp; omega) rfl) ?_
    refine al_op rfl rfl rfl (opP_assign rfl (ev_tmp rfl)) ?_
    refine al_nil ?_
    refine aw_region ?_
    refine al_op rfl rfl rfl (opP_bin rfl (ev_tmp rfl) (ev_const rfl) rfl) ?_
    refine al_op rfl rfl rfl (opP_move rfl (ev_tmp rfl)) ?_
    refine al_nil ?_
    refine ⟨j + 1, id, by omega, by omega, Fit.of ⟨rfl, rfl, rfl, rfl, rfl, rfl, ?_, trivial⟩ ⟨rfl, rfl, rfl, rfl, rfl, rfl, rfl, rfl, rfl, rfl, rfl, ?_, rfl, by rw [← wrapS (by omega)]; rfl, trivial⟩ rfl rfl⟩
    · show some (O.row 1 (ints _ ++ [.int .i64 (IntKind.i64.wrap (wordV 8 (seedAt (seed0 k) (offR f t + j))))])) = _
      rw [wrapI (by have := word8 (seedAt (seed0 k) (offR f t + j)); simp only [I64]; omega), rowR_succ, ints_append]; rfl
    · show A.row 114 1 0 ((ints (rowR (seed0 k) (offR f t) j)).length + 1) = _
      rw [ints_len, rowR_len]
  have ej : j = f.slots[t].toNat := by simp at h6; omega
  subst ej
  refine aw_exit ?_
  refine aw_region ?_
  refine al_op rfl rfl rfl (opP_fieldAddr rfl (ev_tmp rfl) u49 rfl rfl s47 rfl) ?_
  refine al_op rfl rfl rfl (opP_load_pt rfl u47 rfl (ev_tmp rfl) rfl rfl) ?_
  refine al_op rfl rfl rfl (opP_move rfl (ev_tmp rfl)) ?_
  refine al_opc (k := 122) rfl rfl rfl ((hvk _).trans rfl) (opC_buildSlice (ds := [rowD (rowR (seed0 k) (offR f t) f.slots[t].toNat)]) rfl u47 s22 z22 rfl rfl (.cons (ev_tmp rfl) .nil) rfl rfl (.cons (.row 114 1 _ _ rfl (by rw [ints_len, rowR_len])) .nil) rfl rfl rfl) ?_
  refine al_opc rfl rfl rfl ((hvk _).trans rfl) (opC_append rfl u47 s22 z22 rfl b22 (ev_tmp rfl) (ev_tmp rfl) (.row 113 1 _ _ rfl (by rw [List.length_map, memsR_len])) (.row 122 1 _ _ rfl rfl) rfl rfl (by rw [List.length_map, memsR_len]; simp; omega) rfl) ?_
  refine al_op rfl rfl rfl (opP_fieldAddr rfl (ev_tmp rfl) u49 rfl rfl s47 rfl) ?_
  refine al_store_pt rfl rfl rfl s47 (ev_tmp rfl) (ev_tmp rfl) rfl rfl rfl rfl rfl rfl ?_
  refine al_nil ?_
  refine aw_region ?_
  refine al_op rfl rfl rfl (opP_bin rfl (ev_tmp rfl) (ev_const rfl) rfl) ?_
  refine al_op rfl rfl rfl (opP_move rfl (ev_tmp rfl)) ?_
  refine al_nil ?_
  refine ⟨t + 1, id, hts, by omega, Fit.of ⟨rfl, ?_, rfl, ?_, rfl, ?_, trivial⟩ ⟨rfl, rfl, rfl, rfl, rfl, rfl, rfl, rfl, rfl, rfl, by rw [← wrapS (by omega)]; rfl, trivial⟩ rfl rfl⟩
  · rw [offR_succ f hts]; rfl
  · show some (O.var [_, A.row 113 1 0 (((memsR f (seed0 k) t).map rowD).length + 1)]) = _
    rw [List.length_map, memsR_len]; rfl
  · rw [memsR_succ f _ hts, List.map_append]; rfl
end Go.AL
namespace Go.AL
open Go.Proofs
theorem e4 : Enters Tryz.prog 4 := enters_of Tryz.func4 (by kernel_rfl) (by kernel_rfl)
set_option maxRecDepth 100000 in
set_option maxHeartbeats 4000000 in
theorem c4 (f : Fn) (n : Int) (hr : f.Ranges) : Ok Tryz.prog 4 [.dat none (fnD f), .v (.int .i64 n)] [] (.v (.bool true)) [] := by
  refine ok_of e4 Tryz.func4 rfl (by kernel_rfl) ?_
  intro cx hP hro hN hvk
  obtain ⟨P, ro, w0, Bin, N, R0, tk0, bl0, vk⟩ := cx
  subst hP hro hN
  have hvkd := vkd_of hvk
  refine aw_seq ?_
  refine aw_region ?_
  refine al_opc (k := 101) rfl rfl rfl ((hvk _).trans rfl) (opC_box rfl (ev_tmp rfl) rfl) ?_
  refine al_op rfl rfl rfl (opP_assign rfl (ev_const rfl)) ?_
  refine al_nil ?_
  refine aw_seq ?_
  refine aw_seq ?_
  refine aw_region ?_
  refine al_op rfl rfl rfl (opP_load_ptn rfl u27 rfl s27 (ev_tmp rfl) rfl rfl) ?_
  refine al_call (id) rfl rfl rfl (callOf_func rfl (.cons (ev_tmp rfl) .nil)) (c18 f) (by repeat' (first | refine Vw.stDOf ?_ | refine Vw.ptOf rfl rfl rfl ?_ | refine Vw.prvOf ?_ | refine Vw.cloOf ?_ | constructor)) (fun _ h => absurd h (by simp)) rfl rfl rfl (fun _ h => absurd h (by simp)) ?_
  refine al_nil ?_
  refine aw_cond rfl (fun h1 => ?_) (fun h1 => ?_)
  · refine aw_seq ?_
    refine aw_region ?_
    refine al_call (id) rfl rfl rfl (callOf_func rfl .nil) (c10) (by repeat' (first | refine Vw.stDOf ?_ | refine Vw.ptOf rfl rfl rfl ?_ | refine Vw.prvOf ?_ | refine Vw.cloOf ?_ | constructor)) (fun _ h => absurd h (by simp)) rfl rfl rfl (fun _ h => absurd h (by simp)) ?_
    refine al_op rfl rfl rfl (opP_assign rfl (ev_tmp rfl)) ?_
    refine al_nil ?_
    refine aw_ret ?_
    exact ret_id [.v (.bool _)] (.tmp rfl .nil) rfl trivial rfl rfl
  have hf : f.Fits := fits_of hr h1
  refine aw_skip ?_
  refine aw_seq ?_
  refine aw_region ?_
  refine al_op rfl rfl rfl (opP_load_ptn rfl u27 rfl s27 (ev_tmp rfl) rfl rfl) ?_
  refine al_op rfl rfl rfl (opP_move rfl (ev_tmp rfl)) ?_
  refine al_call id rfl rfl rfl (callOf_func rfl (.cons (ev_tmp rfl) (.cons (ev_tmp rfl) .nil))) (c19 f n hf) (by repeat' (first | refine Vw.stDOf ?_ | constructor)) (fun _ h => absurd h (by simp)) rfl rfl rfl (fun p hp => .inr ((hvk _).trans (by simp at hp; subst hp; rfl))) ?_
  refine al_op rfl rfl rfl (opP_move rfl (ev_tmp rfl)) ?_
  refine al_op rfl rfl rfl (opP_extract rfl (ev_tmp rfl) rfl) ?_
  refine al_op rfl rfl rfl (opP_extract rfl (ev_tmp rfl) rfl) ?_
  refine al_op rfl rfl rfl (opP_assign rfl (ev_tmp rfl)) ?_
  refine al_op rfl rfl rfl (opP_assign rfl (ev_tmp rfl)) ?_
  refine al_nil ?_
  refine aw_seq ?_
  refine aw_region ?_
  refine al_op rfl rfl rfl (opP_load_ptn rfl u27 rfl s27 (ev_tmp rfl) rfl rfl) ?_
  refine al_call (id) rfl rfl rfl (callOf_func rfl (.cons (ev_tmp rfl) .nil)) (c14 f hf) (by repeat' (first | refine Vw.stDOf ?_ | refine Vw.ptOf rfl rfl rfl ?_ | refine Vw.prvOf ?_ | refine Vw.cloOf ?_ | constructor)) (fun _ h => absurd h (by simp)) rfl rfl rfl (fun _ h => absurd h (by simp)) ?_
  refine al_op rfl rfl rfl (opP_assign rfl (ev_tmp rfl)) ?_
  refine al_nil ?_
  refine aw_seq' (α := Unit) (fun _ => [(1, .v (.int .i64 n)), (2, .pt 101 0), (5, .row 19001 2 0 (inputsL f n).length), (6, .v (.int .i64 (inErrR f n))), (7, .v (.int .i64 (inErrR f n)))]) (fun _ => [(101, .var [.dat none (.sl 1 (ints f.params)), .v (.int .i64 f.ret), .dat none (.sl 1 (ints f.slots)), .dat none (.sl 1 (f.blocks.map instsD))]), (19001, .row 2 ((inputsL f n).map inD))]) (fun _ => True) ?_ ?_
  · skip
    refine aw_seq ?_
    refine aw_region ?_
    refine al_op rfl rfl rfl (opP_move rfl (ev_tmp rfl)) ?_
    refine al_op rfl rfl rfl (opP_bin rfl (ev_tmp rfl) (ev_const rfl) rfl) ?_
    refine al_op rfl rfl rfl (opP_move rfl (ev_tmp rfl)) ?_
    refine al_opg rfl rfl rfl rfl rfl rfl (opP_move rfl (ev_tmp rfl)) ?_
    refine al_opg rfl rfl rfl rfl rfl rfl (opP_bin rfl (ev_when rfl id) (ev_const rfl) rfl) ?_
    refine al_opg rfl rfl rfl rfl rfl rfl (opP_move rfl (ev_when rfl id)) ?_
    refine al_opg rfl rfl rfl rfl rfl rfl (opP_move rfl (ev_tmp rfl)) ?_
    refine al_opg rfl rfl rfl rfl rfl rfl (opP_bin rfl (ev_when rfl id) (ev_const rfl) rfl) ?_
    refine al_opg rfl rfl rfl rfl rfl rfl (opP_or rfl (ev_when rfl id) (ev_when rfl id)) ?_
    refine al_op rfl rfl rfl (opP_and rfl (ev_tmp rfl) (ev_when rfl id)) ?_
    refine al_nil ?_
    refine aw_cond rfl (fun h2 => ?_) (fun h2 => ?_)
    · refine aw_region ?_
      refine al_op rfl rfl rfl (opP_assign rfl (ev_const rfl)) ?_
      refine al_nil ?_
      refine ⟨(), id, trivial, Fit.of ⟨rfl, rfl, trivial⟩ ⟨rfl, rfl, rfl, rfl, ?_, trivial⟩ rfl rfl⟩
      have e : inErrR f n = 1 := by
        simp at h2
        rw [inErrR, if_neg (by rw [h2.1]; decide), if_pos (by omega)]
      rw [e]; rfl
    refine aw_skip ?_
    refine ⟨(), id, trivial, Fit.of ⟨rfl, rfl, trivial⟩ ⟨rfl, rfl, rfl, rfl, ?_, trivial⟩ rfl rfl⟩
    have e : inErrR f n = validateR f := by
      simp at h2
      unfold inErrR
      split
      · rfl
      · rename_i hv
        have hv : validateR f = 0 := by simpa using hv
        rw [hv, if_neg (by have := h2 hv; omega)]
    rw [e]; rfl
  rintro _ -
  refine aw_seq ?_
  refine aw_seq ?_
  refine aw_region ?_
  refine al_op rfl rfl rfl (opP_move rfl (ev_tmp rfl)) ?_
  refine al_op rfl rfl rfl (opP_move rfl (ev_tmp rfl)) ?_
  refine al_op rfl rfl rfl (opP_bin rfl (ev_tmp rfl) (ev_tmp rfl) rfl) ?_
  refine al_nil ?_
  refine aw_cond rfl (fun h3 => ?_) (fun h3 => ?_)
  · exfalso
    simp at h3
  refine aw_skip ?_
  refine aw_seq ?_
  refine aw_seq ?_
  refine aw_region ?_
  refine al_op rfl rfl rfl (opP_move rfl (ev_tmp rfl)) ?_
  refine al_op rfl rfl rfl (opP_bin rfl (ev_tmp rfl) (ev_const rfl) rfl) ?_
  refine al_nil ?_
  refine aw_cond rfl (fun h4 => ?_) (fun h4 => ?_)
  · refine aw_seq ?_
    refine aw_region ?_
    refine al_op rfl rfl rfl (opP_move rfl (ev_tmp rfl)) ?_
    refine al_op rfl rfl rfl (opP_len rfl u42 (ev_tmp rfl) (by first | exact lenA_ints | exact lenA_map | rfl)) ?_
    refine al_op rfl rfl rfl (opP_bin rfl (ev_tmp rfl) (ev_const rfl) rfl) ?_
    refine al_op rfl rfl rfl (opP_move rfl (ev_tmp rfl)) ?_
    refine al_stepD rfl rfl (stepD_callg rfl rfl rfl rfl (callOf_func rfl .nil) (fun gd => c10) (fun gd => (by repeat' (first | refine Vw.stDOf ?_ | refine Vw.ptOf rfl rfl rfl ?_ | refine Vw.prvOf ?_ | refine Vw.cloOf ?_ | constructor))) rfl (fun _ => rfl)) ?_
    refine al_op rfl rfl rfl (opP_and rfl (ev_tmp rfl) (ev_when rfl id)) ?_
    refine al_op rfl rfl rfl (opP_assign rfl (ev_tmp rfl)) ?_
    refine al_nil ?_
    refine aw_ret ?_
    have e2 : inputsL f n = [] := by rw [inputsL, if_neg (by simpa using h4)]
    exact ret_id [.v (.bool _)] (.tmp rfl .nil) (congrArg (fun b => A.v (.bool b)) (by simp [e2])) trivial rfl rfl
  have he : inErrR f n = 0 := by simpa using h4
  have hv : validateR f = 0 := by
    unfold inErrR at he
    split at he
    · exact he
    · rename_i h; simpa using h
  have hn : 0 ≤ n ∧ n ≤ 64 := by
    unfold inErrR at he
    rw [if_neg (by rw [hv]; decide)] at he
    split at he
    · cases he
    · omega
  have e2 : inputsL f n = inputsR f n.toNat := by rw [inputsL, if_pos he]
  rw [e2, inputsR_len]
  have hV := validate_zero hv
  refine aw_skip ?_
  refine aw_seq ?_
  refine aw_seq ?_
  refine aw_region ?_
  refine al_op rfl rfl rfl (opP_move rfl (ev_tmp rfl)) ?_
  refine al_op rfl rfl rfl (opP_len rfl u42 (ev_tmp rfl) (by first | exact lenA_ints | exact lenA_map | rfl)) ?_
  refine al_op rfl rfl rfl (opP_move rfl (ev_tmp rfl)) ?_
  refine al_op rfl rfl rfl (opP_bin rfl (ev_tmp rfl) (ev_tmp rfl) rfl) ?_
  refine al_nil ?_
  refine aw_cond rfl (fun h5 => ?_) (fun h5 => ?_)
  · exfalso
    simp at h5
    omega
  refine aw_skip ?_
  refine aw_seq ?_
  refine aw_seq ?_
  refine aw_region ?_
  refine al_op rfl rfl rfl (opP_assign rfl (ev_const rfl)) ?_
  refine al_nil ?_
  refine aw_block ?_
  refine aw_loop' (α := Nat) (fun i => [(1, .v (.int .i64 n)), (2, .pt 101 0), (5, .row 19001 2 0 n.toNat), (8, .v (.int .i64 i))]) (fun i => [(101, .var [.dat none (.sl 1 (ints f.params)), .v (.int .i64 f.ret), .dat none (.sl 1 (ints f.slots)), .dat none (.sl 1 (f.blocks.map instsD))]), (19001, .row 2 ((inputsR f n.toNat).map inD))]) (fun i => (i : Int) ≤ n) (fun i => n.toNat - i) 0 (by simpa using hn.1) id (Fit.of (by repeat (first | exact trivial | refine ⟨rfl, ?_⟩)) (by repeat (first | exact trivial | refine ⟨rfl, ?_⟩)) rfl rfl) ?_
  rintro i hi
  refine aw_seq ?_
  refine aw_seq ?_
  refine aw_region ?_
  refine al_op rfl rfl rfl (opP_move rfl (ev_tmp rfl)) ?_
  refine al_op rfl rfl rfl (opP_move rfl (ev_tmp rfl)) ?_
  refine al_op rfl rfl rfl (opP_len rfl u42 (ev_tmp rfl) (by first | exact lenA_ints | exact lenA_map | rfl)) ?_
  refine al_op rfl rfl rfl (opP_bin rfl (ev_tmp rfl) (ev_tmp rfl) rfl) ?_
  refine al_nil ?_
  refine aw_condS rfl (fun h6 => ?_) (fun h6 => ?_)
  · refine aw_exit ?_
    refine aw_seq ?_
    refine aw_region ?_
    refine al_call (id) rfl rfl rfl (callOf_func rfl .nil) (c10) (by repeat' (first | refine Vw.stDOf ?_ | refine Vw.ptOf rfl rfl rfl ?_ | refine Vw.prvOf ?_ | refine Vw.cloOf ?_ | constructor)) (fun _ h => absurd h (by simp)) rfl rfl rfl (fun _ h => absurd h (by simp)) ?_
    refine al_op rfl rfl rfl (opP_assign rfl (ev_tmp rfl)) ?_
    refine al_nil ?_
    refine aw_ret ?_
    exact ret_id [.v (.bool _)] (.tmp rfl .nil) rfl trivial rfl rfl
  have hin : (i : Int) < ((n.toNat : Nat) : Int) := by simpa using h6
  have hxf := input_fits hf hV i
  have hxv := input_valid hv i
  have hxa := hxf.args
  have hxm := hxf.mem
  have hget : ((inputsR f n.toNat).map inD)[0 + (i : Int).toNat]? = some (inD (inputR f i)) := by
    rw [Nat.zero_add, Int.toNat_natCast]
    simp [inputsR, List.getElem?_map, show i < n.toNat by omega]
  refine aw_skip ?_
  refine aw_seq ?_
  refine aw_block ?_
  refine aw_seq ?_
  refine aw_seq ?_
  refine aw_draw mixed ?_
  apply ad_phase' [⟨0, 54, _, [], []⟩, ⟨1, 55, _, [], []⟩, ⟨2, 56, _, [], []⟩, ⟨3, 57, _, [1, 2], []⟩, ⟨4, 58, _, [1, 2, 3], []⟩, ⟨5, 59, .v (.int .i64 (validInR f (inputR f i))), [0, 1, 2, 3, 4], []⟩, ⟨6, 60, _, [0, 1, 2, 3, 4, 5], []⟩] [] (fuelT := 0)
  · skip
    refine .cons rfl (stepD_op rfl (opP_load_ptn (cs := fnA f) rfl u27 rfl s27 (ev_tmp rfl) rfl rfl)) ?_
    refine .cons rfl (stepD_op rfl (opP_move rfl (ev_tmp rfl))) ?_
    refine .cons rfl (stepD_op rfl (opP_move rfl (ev_tmp rfl))) ?_
    refine .cons rfl (stepD_op rfl (opP_index_row rfl u42 s49 (ev_tmp rfl) (ev_tmp rfl) (fun _ => Int.natCast_nonneg _) (fun _ => hin))) ?_
    refine .cons rfl (stepD_op rfl (opP_load_pen rfl u49 rfl s49 (ev_tmp rfl) rfl (fun _ => hget) rfl)) ?_
    refine .cons rfl (stepD_call (id) rfl (callOf_func rfl (.cons (ev_tmp rfl) (.cons (ev_tmp rfl) .nil))) (c20 f (inputR f i) hf hxf) (.cons (Vw.stDOf (by repeat' constructor)) (.cons (Vw.dats 19001 _ rfl) .nil)) rfl rfl rfl (fun _ => rfl) (fun _ => rfl)) ?_
    refine .cons rfl (stepD_op rfl (opP_bin rfl (ev_tmp rfl) (ev_const rfl) rfl)) ?_
    exact .nil
  · exact .no rfl (.no rfl (.no rfl (.no rfl (.no rfl (.no rfl (.no rfl (.nil)))))))
  · rfl
  · rfl
  · rfl
  · rfl
  · intro c s h; first | exact h | (obtain ⟨_, _, h, _⟩ := h; exact h)
  · exact hvkd _ rfl
  · rfl
  refine ad_done rfl ?_
  refine aw_cond rfl (fun h7 => ?_) (fun h7 => ?_)
  · exfalso
    rw [hxv] at h7
    simp at h7
  refine aw_skip ?_
  refine aw_seq ?_
  refine aw_seq ?_
  refine aw_region ?_
  refine al_op rfl rfl rfl (opP_assign rfl (ev_const rfl)) ?_
  refine al_nil ?_
  refine aw_block ?_
  refine aw_loop' (α := Nat) (fun k => [(1, .v (.int .i64 n)), (2, .pt 101 0), (5, .row 19001 2 0 n.toNat), (8, .v (.int .i64 i)), (9, .v (.int .i64 k))]) (fun k => [(101, .var [.dat none (.sl 1 (ints f.params)), .v (.int .i64 f.ret), .dat none (.sl 1 (ints f.slots)), .dat none (.sl 1 (f.blocks.map instsD))]), (19001, .row 2 ((inputsR f n.toNat).map inD))]) (fun k => k ≤ (inputR f i).args.length) (fun k => (inputR f i).args.length - k) 0 (Nat.zero_le _) id (Fit.of (by repeat (first | exact trivial | refine ⟨rfl, ?_⟩)) (by repeat (first | exact trivial | refine ⟨rfl, ?_⟩)) rfl rfl) ?_
  rintro k hk
  refine aw_seq ?_
  refine aw_seq ?_
  refine aw_region ?_
  refine al_op rfl rfl rfl (opP_move rfl (ev_tmp rfl)) ?_
  refine al_op rfl rfl rfl (opP_move rfl (ev_tmp rfl)) ?_
  refine al_op rfl rfl rfl (opP_move rfl (ev_tmp rfl)) ?_
  refine al_op rfl rfl rfl (opP_index_row rfl u42 s49 (ev_tmp rfl) (ev_tmp rfl) (fun _ => Int.natCast_nonneg _) (fun _ => hin)) ?_
  refine al_op rfl rfl rfl (opP_fieldAddr rfl (ev_tmp rfl) u49 rfl rfl s46 rfl) ?_
  refine al_op rfl rfl rfl (opP_load_pe rfl u46 rfl (ev_tmp rfl) rfl (fun _ => hget) rfl) ?_
  refine al_op rfl rfl rfl (opP_len rfl u46 (ev_tmp rfl) (by first | exact lenA_ints | exact lenA_map | rfl)) ?_
  refine al_op rfl rfl rfl (opP_bin rfl (ev_tmp rfl) (ev_tmp rfl) rfl) ?_
  refine al_op rfl rfl rfl (opP_move rfl (ev_tmp rfl)) ?_
  refine al_opg rfl rfl rfl rfl rfl rfl (opP_move rfl (ev_tmp rfl)) ?_
  refine al_opg rfl rfl rfl rfl rfl rfl (opP_bin rfl (ev_when rfl id) (ev_const rfl) rfl) ?_
  refine al_op rfl rfl rfl (opP_and rfl (ev_tmp rfl) (ev_when rfl id)) ?_
  refine al_nil ?_
  refine aw_cond rfl (fun h8 => ?_) (fun h8 => ?_)
  · have h8' : k < (inputR f i).args.length ∧ i = 0 := by simpa [words_len] using h8
    have hkl := h8'.1
    have hz := (input_zero f).1
    rw [← h8'.2] at hz
    have hz2 := hz _ (List.getElem_mem hkl)
    refine aw_skip ?_
    refine aw_seq ?_
    refine aw_block ?_
    refine aw_seq ?_
    refine aw_region ?_
    refine al_op rfl rfl rfl (opP_move rfl (ev_tmp rfl)) ?_
    refine al_op rfl rfl rfl (opP_move rfl (ev_tmp rfl)) ?_
    refine al_op rfl rfl rfl (opP_index_row rfl u42 s49 (ev_tmp rfl) (ev_tmp rfl) (fun _ => Int.natCast_nonneg _) (fun _ => hin)) ?_
    refine al_op rfl rfl rfl (opP_fieldAddr rfl (ev_tmp rfl) u49 rfl rfl s46 rfl) ?_
    refine al_op rfl rfl rfl (opP_load_pe rfl u46 rfl (ev_tmp rfl) rfl (fun _ => hget) rfl) ?_
    refine al_op rfl rfl rfl (opP_move rfl (ev_tmp rfl)) ?_
    refine al_op rfl rfl rfl (opP_index_dat rfl u46 s36 (ev_tmp rfl) (ev_tmp rfl) (fun _ => Int.natCast_nonneg _) (fun _ => words_get hkl)) ?_
    refine al_op rfl rfl rfl (opP_load_pr rfl u36 rfl (ev_tmp rfl)) ?_
    refine al_op rfl rfl rfl (opP_bin rfl (ev_tmp rfl) (ev_const rfl) rfl) ?_
    refine al_nil ?_
    refine aw_cond rfl (fun h9 => ?_) (fun h9 => ?_)
    · exfalso
      rw [hz2] at h9
      simp at h9
    refine aw_skip ?_
    refine aw_region ?_
    refine al_op rfl rfl rfl (opP_move rfl (ev_tmp rfl)) ?_
    refine al_op rfl rfl rfl (opP_bin rfl (ev_tmp rfl) (ev_const rfl) rfl) ?_
    refine al_op rfl rfl rfl (opP_assign rfl (ev_tmp rfl)) ?_
    refine al_nil ?_
    refine ⟨k + 1, id, hkl, by omega, Fit.of ⟨rfl, rfl, trivial⟩ ⟨rfl, rfl, rfl, rfl, by rw [← wrapS (by omega)]; rfl, trivial⟩ rfl rfl⟩
  refine aw_exit ?_
  refine aw_seq ?_
  refine aw_region ?_
  refine al_op rfl rfl rfl (opP_assign rfl (ev_const rfl)) ?_
  refine al_nil ?_
  refine aw_block ?_
  refine aw_loop' (α := Nat) (fun s => [(1, .v (.int .i64 n)), (2, .pt 101 0), (5, .row 19001 2 0 n.toNat), (8, .v (.int .i64 i)), (10, .v (.int .i64 s))]) (fun s => [(101, .var [.dat none (.sl 1 (ints f.params)), .v (.int .i64 f.ret), .dat none (.sl 1 (ints f.slots)), .dat none (.sl 1 (f.blocks.map instsD))]), (19001, .row 2 ((inputsR f n.toNat).map inD))]) (fun s => s ≤ (inputR f i).mem.length) (fun s => (inputR f i).mem.length - s) 0 (Nat.zero_le _) id (Fit.of (by repeat (first | exact trivial | refine ⟨rfl, ?_⟩)) (by repeat (first | exact trivial | refine ⟨rfl, ?_⟩)) rfl rfl) ?_
  rintro s hs
  refine aw_seq ?_
  refine aw_seq ?_
  refine aw_region ?_
  refine al_op rfl rfl rfl (opP_move rfl (ev_tmp rfl)) ?_
  refine al_op rfl rfl rfl (opP_move rfl (ev_tmp rfl)) ?_
  refine al_op rfl rfl rfl (opP_move rfl (ev_tmp rfl)) ?_
  refine al_op rfl rfl rfl (opP_index_row rfl u42 s49 (ev_tmp rfl) (ev_tmp rfl) (fun _ => Int.natCast_nonneg _) (fun _ => hin)) ?_
  refine al_op rfl rfl rfl (opP_fieldAddr rfl (ev_tmp rfl) u49 rfl rfl s47 rfl) ?_
  refine al_op rfl rfl rfl (opP_load_pe rfl u47 rfl (ev_tmp rfl) rfl (fun _ => hget) rfl) ?_
  refine al_op rfl rfl rfl (opP_len rfl u47 (ev_tmp rfl) (by first | exact lenA_ints | exact lenA_map | rfl)) ?_
  refine al_op rfl rfl rfl (opP_bin rfl (ev_tmp rfl) (ev_tmp rfl) rfl) ?_
  refine al_op rfl rfl rfl (opP_move rfl (ev_tmp rfl)) ?_
  refine al_opg rfl rfl rfl rfl rfl rfl (opP_move rfl (ev_tmp rfl)) ?_
  refine al_opg rfl rfl rfl rfl rfl rfl (opP_bin rfl (ev_when rfl id) (ev_const rfl) rfl) ?_
  refine al_op rfl rfl rfl (opP_and rfl (ev_tmp rfl) (ev_when rfl id)) ?_
  refine al_nil ?_
  refine aw_condS rfl (fun h10 => ?_) (fun h10 => ?_)
  · refine aw_exit ?_
    refine aw_region ?_
    refine al_op rfl rfl rfl (opP_move rfl (ev_tmp rfl)) ?_
    refine al_op rfl rfl rfl (opP_bin rfl (ev_tmp rfl) (ev_const rfl) rfl) ?_
    refine al_op rfl rfl rfl (opP_assign rfl (ev_tmp rfl)) ?_
    refine al_nil ?_
    refine ⟨i + 1, id, by omega, by omega, Fit.of ⟨rfl, rfl, trivial⟩ ⟨rfl, rfl, rfl, by rw [← wrapS (by omega)]; rfl, trivial⟩ rfl rfl⟩
  have h10' : s < (inputR f i).mem.length ∧ i = 0 := by simpa using h10
  have hsl := h10'.1
  have hz := (input_zero f).2
  rw [← h10'.2] at hz
  have hz2 := hz _ (List.getElem_mem hsl)
  have hrl := hxf.rows _ (List.getElem_mem hsl)
  refine aw_skip ?_
  refine aw_seq ?_
  refine aw_block ?_
  refine aw_seq ?_
  refine aw_region ?_
  refine al_op rfl rfl rfl (opP_assign rfl (ev_const rfl)) ?_
  refine al_nil ?_
  refine aw_block ?_
  refine aw_loop' (α := Nat) (fun m => [(1, .v (.int .i64 n)), (2, .pt 101 0), (5, .row 19001 2 0 n.toNat), (8, .v (.int .i64 i)), (10, .v (.int .i64 s)), (11, .v (.int .i64 m))]) (fun m => [(101, .var [.dat none (.sl 1 (ints f.params)), .v (.int .i64 f.ret), .dat none (.sl 1 (ints f.slots)), .dat none (.sl 1 (f.blocks.map instsD))]), (19001, .row 2 ((inputsR f n.toNat).map inD))]) (fun m => m ≤ (inputR f i).mem[s].length) (fun m => (inputR f i).mem[s].length - m) 0 (Nat.zero_le _) id (Fit.of (by repeat (first | exact trivial | refine ⟨rfl, ?_⟩)) (by repeat (first | exact trivial | refine ⟨rfl, ?_⟩)) rfl rfl) ?_
  rintro m hm
  refine aw_seq ?_
  refine aw_seq ?_
  refine aw_region ?_
  refine al_op rfl rfl rfl (opP_move rfl (ev_tmp rfl)) ?_
  refine al_op rfl rfl rfl (opP_move rfl (ev_tmp rfl)) ?_
  refine al_op rfl rfl rfl (opP_move rfl (ev_tmp rfl)) ?_
  refine al_op rfl rfl rfl (opP_index_row rfl u42 s49 (ev_tmp rfl) (ev_tmp rfl) (fun _ => Int.natCast_nonneg _) (fun _ => hin)) ?_
  refine al_op rfl rfl rfl (opP_fieldAddr rfl (ev_tmp rfl) u49 rfl rfl s47 rfl) ?_
  refine al_op rfl rfl rfl (opP_load_pe rfl u47 rfl (ev_tmp rfl) rfl (fun _ => hget) rfl) ?_
  refine al_op rfl rfl rfl (opP_move rfl (ev_tmp rfl)) ?_
  refine al_op rfl rfl rfl (opP_index_dat rfl u47 s22 (ev_tmp rfl) (ev_tmp rfl) (fun _ => Int.natCast_nonneg _) (fun _ => mem_get hsl)) ?_
  refine al_op rfl rfl rfl (opP_load_pr rfl u22 rfl (ev_tmp rfl)) ?_
  refine al_op rfl rfl rfl (opP_len rfl u22 (ev_tmp rfl) (by first | exact lenA_ints | exact lenA_map | rfl)) ?_
  refine al_op rfl rfl rfl (opP_bin rfl (ev_tmp rfl) (ev_tmp rfl) rfl) ?_
  refine al_nil ?_
  refine aw_condS rfl (fun h11 => ?_) (fun h11 => ?_)
  · refine aw_exit ?_
    refine aw_region ?_
    refine al_op rfl rfl rfl (opP_move rfl (ev_tmp rfl)) ?_
    refine al_op rfl rfl rfl (opP_bin rfl (ev_tmp rfl) (ev_const rfl) rfl) ?_
    refine al_op rfl rfl rfl (opP_assign rfl (ev_tmp rfl)) ?_
    refine al_nil ?_
    refine ⟨s + 1, id, hsl, by omega, Fit.of ⟨rfl, rfl, trivial⟩ ⟨rfl, rfl, rfl, rfl, by rw [← wrapS (by omega)]; rfl, trivial⟩ rfl rfl⟩
  have hml : m < (inputR f i).mem[s].length := by simpa [rowD, ints_len] using h11
  have hz3 := hz2 _ (List.getElem_mem hml)
  refine aw_skip ?_
  refine aw_seq ?_
  refine aw_block ?_
  refine aw_seq ?_
  refine aw_region ?_
  refine al_op rfl rfl rfl (opP_move rfl (ev_tmp rfl)) ?_
  refine al_op rfl rfl rfl (opP_move rfl (ev_tmp rfl)) ?_
  refine al_op rfl rfl rfl (opP_index_row rfl u42 s49 (ev_tmp rfl) (ev_tmp rfl) (fun _ => Int.natCast_nonneg _) (fun _ => hin)) ?_
  refine al_op rfl rfl rfl (opP_fieldAddr rfl (ev_tmp rfl) u49 rfl rfl s47 rfl) ?_
  refine al_op rfl rfl rfl (opP_load_pe rfl u47 rfl (ev_tmp rfl) rfl (fun _ => hget) rfl) ?_
  refine al_op rfl rfl rfl (opP_move rfl (ev_tmp rfl)) ?_
  refine al_op rfl rfl rfl (opP_index_dat rfl u47 s22 (ev_tmp rfl) (ev_tmp rfl) (fun _ => Int.natCast_nonneg _) (fun _ => mem_get hsl)) ?_
  refine al_op rfl rfl rfl (opP_load_pr rfl u22 rfl (ev_tmp rfl)) ?_
  refine al_op rfl rfl rfl (opP_move rfl (ev_tmp rfl)) ?_
  refine al_op rfl rfl rfl (opP_index_dat rfl u22 s3 (ev_tmp rfl) (ev_tmp rfl) (fun _ => Int.natCast_nonneg _) (fun _ => ints_get hml)) ?_
  refine al_op rfl rfl rfl (opP_load_pr rfl u3 rfl (ev_tmp rfl)) ?_
  refine al_op rfl rfl rfl (opP_bin rfl (ev_tmp rfl) (ev_const rfl) rfl) ?_
  refine al_nil ?_
  refine aw_cond rfl (fun h12 => ?_) (fun h12 => ?_)
  · exfalso
    rw [hz3] at h12
    simp at h12
  refine aw_skip ?_
  refine aw_region ?_
  refine al_op rfl rfl rfl (opP_move rfl (ev_tmp rfl)) ?_
  refine al_op rfl rfl rfl (opP_bin rfl (ev_tmp rfl) (ev_const rfl) rfl) ?_
  refine al_op rfl rfl rfl (opP_assign rfl (ev_tmp rfl)) ?_
  refine al_nil ?_
  refine ⟨m + 1, id, hml, by omega, Fit.of ⟨rfl, rfl, trivial⟩ ⟨rfl, rfl, rfl, rfl, rfl, by rw [← wrapS (by omega)]; rfl, trivial⟩ rfl rfl⟩
end Go.AL
namespace Go.AL
open Go.Proofs Go.Deep
open Go.RowKit (Below)
def old (w : World) : Nat → Prop := fun b => b < w.heap.size
section
variable {H : Type} {enc : TypeId × Value → H} {P : Program} {w : World} {base fuel : Nat} {spare : Nat → Bool} {held : Bool} {cs : List Value} {x : DataW H × List MemPlace}
def Cells (w : World) (cs : List Value) (d : D) (n : Nat) : Prop := d.cells.length = n ∧ cs.length = n ∧ ∀ (j : Nat) (hj : j < d.cells.length), RO (old w) w (cs.getD j undef) d.cells[j]
theorem cells_at {a : Addr} {n : Nat} (h : w.cells? base a n = some cs) : cs.length = n ∧ ∀ j, j < n → w.cell? (a.add j) = some (cs.getD j undef) := by
  unfold World.cells? at h
  split at h
  · have gen : ∀ (l : List Nat) (cs : List Value), (l.mapM fun i => w.cell? (a.add i)) = some cs → cs.length = l.length ∧ ∀ j (hj : j < l.length), w.cell? (a.add l[j]) = some (cs.getD j undef) := by
      intro l
      induction l with
      | nil => intro cs h; simp at h; subst h; exact ⟨rfl, fun j hj => absurd hj (Nat.not_lt_zero _)⟩
      | cons i l ih =>
        intro cs h
        simp only [List.mapM_cons, Option.bind_eq_bind, Option.bind_eq_some_iff, Option.pure_def, Option.some.injEq] at h
        obtain ⟨v, hv, vs, hvs, rfl⟩ := h
        obtain ⟨h1, h2⟩ := ih vs hvs
        refine ⟨by simp [h1], fun j hj => ?_⟩
        cases j with
        | zero => simpa using hv
        | succ j => simpa using h2 j (by simpa using hj)
    obtain ⟨h1, h2⟩ := gen _ _ h
    refine ⟨by simpa using h1, fun j hj => ?_⟩
    have := h2 j (by simpa using hj)
    simpa using this
  · cases h
theorem cell_old {a : Addr} {v : Value} (h : w.cell? a = some v) : old w a.block ∧ a.spot = none := by
  unfold World.cell? at h
  split at h
  · rename_i c _ _ hc
    refine ⟨(Array.getElem?_eq_some_iff.1 hc).1, ?_⟩
    cases hs : a.spot with
    | none => rfl
    | some s => rw [hs] at h; simp at h
  · cases h
theorem read_sl {t e : TypeId} {es : Nat} {Q : D → Prop} (ht : P.underlying t = some (.slice e)) (hes : P.cellsOf e = es) (h0 : 0 < es)
    (elem : ∀ (n : Nat) (cs : List Value) (x : DataW H × List MemPlace), DataW.trod enc P w base spare held n e cs = some x → ∃ d, Q d ∧ Cells w cs d es) (h : DataW.trod enc P w base spare held fuel t cs = some x) :
    ∃ xs : List D, (∀ d ∈ xs, Q d) ∧ Cells w cs (.sl es xs) 1 := by
  subst hes
  rcases open_slice ht h with ⟨rfl, _⟩ | ⟨a, len, cap, m, n, D', Pl, rfl, _, hlc, _, hm, _, hel⟩
  · refine ⟨[], fun d hd => by simp at hd, rfl, rfl, fun j hj => ?_⟩
    have : j = 0 := by simp [D.cells] at hj; omega
    subst this
    exact .nil _ _ _
  · have hlm : len ≤ m := by rw [hm]; split <;> omega
    by_cases hz : len = 0
    · subst hz
      refine ⟨[], fun d hd => by simp at hd, rfl, rfl, fun j hj => ?_⟩
      have : j = 0 := by simp [D.cells] at hj; omega
      subst this
      exact .nil _ _ _
    · have hex : ∀ i, ∃ (d : D) (c : List Value), i < len → Q d ∧ Cells w c d (P.cellsOf e) ∧ w.cells? base (a.add (i * P.cellsOf e)) (P.cellsOf e) = some c := by
        intro i
        by_cases hi : i < len
        · obtain ⟨c, h1, h2⟩ := hel i (by omega)
          obtain ⟨d, h3, h4⟩ := elem _ _ _ h2
          exact ⟨d, c, fun _ => ⟨h3, h4, h1⟩⟩
        · exact ⟨.hole, [], fun h => absurd h hi⟩
      obtain ⟨F, hF⟩ := Classical.skolem.1 hex
      obtain ⟨C, hC⟩ := Classical.skolem.1 hF
      obtain ⟨b, o, spot⟩ := a
      have hsp : spot = none ∧ old w b := by
        obtain ⟨_, _, h3⟩ := hC 0 (by omega)
        have := (cells_at h3).2 0 h0
        simp only [Nat.zero_mul] at this
        have e : ((⟨b, o, spot⟩ : Addr).add 0).add 0 = ⟨b, o, spot⟩ := rfl
        rw [e] at this
        exact ⟨(cell_old this).2, (cell_old this).1⟩
      obtain ⟨rfl, hb⟩ := hsp
      refine ⟨(List.range len).map F, fun d hd => ?_, rfl, rfl, fun j hj => ?_⟩
      · obtain ⟨i, hi, rfl⟩ := List.mem_map.1 hd
        exact (hC i (List.mem_range.1 hi)).1
      · have : j = 0 := by simp [D.cells] at hj; omega
        subst this
        have key := RO.sl (R := old w) (w := w) b o cap (P.cellsOf e) ((List.range len).map F) (fun i j => (C i).getD j undef) hb (by simpa using hlc) (fun i hi => ?_) (fun i j hi hj => ?_) (fun i hi j hj => ?_)
        · have key' : RO (old w) w (.slice (some ⟨b, o, none⟩) len cap) (.sl (P.cellsOf e) ((List.range len).map F)) := by simpa using key
          exact key'
        · simp only [List.length_map, List.length_range] at hi
          simp only [List.getElem_map, List.getElem_range]
          exact (hC i hi).2.1.1
        · simp only [List.length_map, List.length_range] at hi
          have := (cells_at (hC i hi).2.2).2 j hj
          rw [add_plain', add_plain'] at this
          exact this
        · simp only [List.length_map, List.length_range] at hi
          simp only [List.getElem_map, List.getElem_range] at hj ⊢
          exact (hC i hi).2.1.2.2 j hj
theorem read_int {t : TypeId} {k : IntKind} (ht : P.underlying t = some (.int k)) (h : DataW.trod enc P w base spare held fuel t cs = some x) : ∃ n, ((Lit.int k n).wf = true) ∧ Cells w cs (.int k n) 1 := by
  obtain ⟨n, rfl, _, hw⟩ := DataW.trod_int ht h
  refine ⟨n, hw, rfl, rfl, fun j hj => ?_⟩
  have : j = 0 := by simp [D.cells] at hj; omega
  subst this
  exact .int _ _
theorem map_of {α : Type} {F : α → D} {Q : α → Prop} : ∀ {xs : List D}, (∀ d ∈ xs, ∃ a, Q a ∧ d = F a) → ∃ l : List α, xs = l.map F ∧ ∀ a ∈ l, Q a
  | [], _ => ⟨[], rfl, fun a ha => by simp at ha⟩
  | d :: xs, h => by
    obtain ⟨a, h1, h2⟩ := h d (by simp)
    obtain ⟨l, h3, h4⟩ := map_of (xs := xs) fun d hd => h d (by simp [hd])
    exact ⟨a :: l, by simp [h2, h3], fun b hb => by
      rcases List.mem_cons.1 hb with rfl | hb
      · exact h1
      · exact h4 b hb⟩
theorem wf_i64 {n : Int} (h : (Lit.int .i64 n).wf = true) : I64 n := by
  simp only [Lit.wf, Bool.and_eq_true, decide_eq_true_eq] at h
  have e1 : IntKind.i64.min = -9223372036854775808 := by decide
  have e2 : IntKind.i64.max = 9223372036854775807 := by decide
  simp only [I64]; omega
theorem wf_u32 {n : Int} (h : (Lit.int .u32 n).wf = true) : U32 n := by
  simp only [Lit.wf, Bool.and_eq_true, decide_eq_true_eq] at h
  have e1 : IntKind.u32.min = 0 := by decide
  have e2 : IntKind.u32.max = 4294967295 := by decide
  simp only [U32]; omega
theorem trod_at {t : TypeId} {fs : Array Field} (ht : P.underlying t = some (.struct fs)) (h : DataW.trod enc P w base spare held fuel t cs = some x) :
    cs.length = P.cellsOf t ∧ ∀ (i ty off : Nat), (fs[i]?).map (fun f => (f.type, f.offset)) = some (ty, off) → ∃ n y, DataW.trod enc P w base spare held n ty ((cs.drop off).take (P.cellsOf ty)) = some y := by
  obtain ⟨xs, n, _, _, h1, h2, h3⟩ := DataW.trod_struct ht h
  refine ⟨h1, fun i ty off hm => ?_⟩
  obtain ⟨f, hf, e⟩ := Option.map_eq_some_iff.1 hm
  cases e
  have hi : i < xs.length := by rw [h2]; exact (Array.getElem?_eq_some_iff.1 hf).1
  exact ⟨n, xs[i], by rw [h3 i f hf, List.getElem?_eq_getElem hi]⟩
end
section
variable {H : Type} {enc : TypeId × Value → H} {w : World} {base fuel : Nat} {spare : Nat → Bool} {held : Bool} {cs : List Value} {x : DataW H × List MemPlace}
theorem c3' : Tryz.prog.cellsOf 3 = 1 := by kernel_rfl
theorem c22' : Tryz.prog.cellsOf 22 = 1 := by kernel_rfl
theorem c25' : Tryz.prog.cellsOf 25 = 1 := by kernel_rfl
theorem c27' : Tryz.prog.cellsOf 27 = 4 := by kernel_rfl
theorem c35' : Tryz.prog.cellsOf 35 = 1 := by kernel_rfl
theorem c36' : Tryz.prog.cellsOf 36 = 1 := by kernel_rfl
theorem c38' : Tryz.prog.cellsOf 38 = 6 := by kernel_rfl
theorem read_ints (h : DataW.trod enc Tryz.prog w base spare held fuel 22 cs = some x) : ∃ l : List Int, (∀ a ∈ l, I64 a) ∧ Cells w cs (.sl 1 (ints l)) 1 := by
  obtain ⟨xs, h1, h2⟩ := read_sl (Q := fun d => ∃ a, I64 a ∧ d = .int .i64 a) u22 c3' (by decide) (fun n cs x h => by
    obtain ⟨a, h1, h2⟩ := read_int (k := .i64) u3 h
    exact ⟨_, ⟨a, wf_i64 h1, rfl⟩, h2⟩) h
  obtain ⟨l, rfl, h3⟩ := map_of h1
  exact ⟨l, h3, h2⟩
theorem cells_one {cs : List Value} {d : D} (h : Cells w cs d 1) (hd : d.cells = [d]) : ∃ v, cs = [v] ∧ RO (old w) w v d := by
  obtain ⟨h1, h2, h3⟩ := h
  match cs, h2 with
  | [v], _ => exact ⟨v, rfl, by have := h3 0 (by omega); simpa [hd] using this⟩
set_option maxRecDepth 100000 in
theorem read_inst (h : DataW.trod enc Tryz.prog w base spare held fuel 38 cs = some x) : ∃ y : Inst, y.Ranges ∧ Cells w cs (instD y) 6 := by
  obtain ⟨hl, hf⟩ := trod_at u38 h
  rw [c38'] at hl
  match cs, hl with
  | [v0, v1, v2, v3, v4, v5], _ =>
    obtain ⟨_, _, f0⟩ := hf 0 3 0 rfl
    obtain ⟨_, _, f1⟩ := hf 1 3 1 rfl
    obtain ⟨_, _, f2⟩ := hf 2 3 2 rfl
    obtain ⟨_, _, f3⟩ := hf 3 22 3 rfl
    obtain ⟨_, _, f4⟩ := hf 4 36 4 rfl
    obtain ⟨_, _, f5⟩ := hf 5 22 5 rfl
    simp only [c3', c22', c36', List.drop_zero, List.drop_succ_cons, List.take_succ_cons, List.take_zero] at f0 f1 f2 f3 f4 f5
    obtain ⟨a0, w0, g0⟩ := read_int (k := .i64) u3 f0
    obtain ⟨a1, w1, g1⟩ := read_int (k := .i64) u3 f1
    obtain ⟨a2, w2, g2⟩ := read_int (k := .i64) u3 f2
    obtain ⟨a3, w3, g3⟩ := read_ints f3
    obtain ⟨a4, w4, g4⟩ := read_int (k := .u32) u36 f4
    obtain ⟨a5, w5, g5⟩ := read_ints f5
    obtain ⟨_, e0, r0⟩ := cells_one g0 rfl
    obtain ⟨_, e1, r1⟩ := cells_one g1 rfl
    obtain ⟨_, e2, r2⟩ := cells_one g2 rfl
    obtain ⟨_, e3, r3⟩ := cells_one g3 rfl
    obtain ⟨_, e4, r4⟩ := cells_one g4 rfl
    obtain ⟨_, e5, r5⟩ := cells_one g5 rfl
    cases e0; cases e1; cases e2; cases e3; cases e4; cases e5
    refine ⟨⟨a0, a1, a2, a3, a4, a5⟩, ⟨wf_u32 w4, wf_i64 w1, wf_i64 w0, wf_i64 w2, w3, w5⟩, rfl, rfl, fun j hj => ?_⟩
    have hj6 : j < 6 := hj
    match j, hj6 with
    | 0, _ => exact r0
    | 1, _ => exact r1
    | 2, _ => exact r2
    | 3, _ => exact r3
    | 4, _ => exact r4
    | 5, _ => exact r5
theorem read_insts (h : DataW.trod enc Tryz.prog w base spare held fuel 35 cs = some x) : ∃ l : List Inst, (∀ y ∈ l, y.Ranges) ∧ Cells w cs (instsD l) 1 := by
  obtain ⟨xs, h1, h2⟩ := read_sl (Q := fun d => ∃ a : Inst, a.Ranges ∧ d = instD a) u35 c38' (by decide) (fun n cs x h => by
    obtain ⟨a, h1, h2⟩ := read_inst h
    exact ⟨_, ⟨a, h1, rfl⟩, h2⟩) h
  obtain ⟨l, rfl, h3⟩ := map_of h1
  exact ⟨l, h3, h2⟩
theorem read_blocks (h : DataW.trod enc Tryz.prog w base spare held fuel 25 cs = some x) : ∃ l : List (List Inst), (∀ b ∈ l, ∀ y ∈ b, y.Ranges) ∧ Cells w cs (.sl 1 (l.map instsD)) 1 := by
  obtain ⟨xs, h1, h2⟩ := read_sl (Q := fun d => ∃ b : List Inst, (∀ y ∈ b, y.Ranges) ∧ d = instsD b) u25 c35' (by decide) (fun n cs x h => by
    obtain ⟨a, h1, h2⟩ := read_insts h
    exact ⟨_, ⟨a, h1, rfl⟩, h2⟩) h
  obtain ⟨l, rfl, h3⟩ := map_of h1
  exact ⟨l, h3, h2⟩
set_option maxRecDepth 100000 in
theorem read_fn (h : DataW.trod enc Tryz.prog w base spare held fuel 27 cs = some x) : ∃ f : Fn, f.Ranges ∧ Cells w cs (fnD f) 4 := by
  obtain ⟨hl, hf⟩ := trod_at u27 h
  rw [c27'] at hl
  match cs, hl with
  | [v0, v1, v2, v3], _ =>
    obtain ⟨_, _, f0⟩ := hf 0 22 0 rfl
    obtain ⟨_, _, f1⟩ := hf 1 3 1 rfl
    obtain ⟨_, _, f2⟩ := hf 2 22 2 rfl
    obtain ⟨_, _, f3⟩ := hf 3 25 3 rfl
    simp only [c3', c22', c25', List.drop_zero, List.drop_succ_cons, List.take_succ_cons, List.take_zero] at f0 f1 f2 f3
    obtain ⟨a0, w0, g0⟩ := read_ints f0
    obtain ⟨a1, w1, g1⟩ := read_int (k := .i64) u3 f1
    obtain ⟨a2, w2, g2⟩ := read_ints f2
    obtain ⟨a3, w3, g3⟩ := read_blocks f3
    obtain ⟨_, e0, r0⟩ := cells_one g0 rfl
    obtain ⟨_, e1, r1⟩ := cells_one g1 rfl
    obtain ⟨_, e2, r2⟩ := cells_one g2 rfl
    obtain ⟨_, e3, r3⟩ := cells_one g3 rfl
    cases e0; cases e1; cases e2; cases e3
    refine ⟨⟨a0, a1, a2, a3⟩, ⟨w3, wf_i64 w1, w0, w2⟩, rfl, rfl, fun j hj => ?_⟩
    have hj4 : j < 4 := hj
    match j, hj4 with
    | 0, _ => exact r0
    | 1, _ => exact r1
    | 2, _ => exact r2
    | 3, _ => exact r3
theorem cells_agg {vs : Array Value} {ds : List D} {n : Nat} (h : Cells w vs.toList (.agg ds) n) : RO (old w) w (.agg vs) (.agg ds) := by
  obtain ⟨h1, h2, h3⟩ := h
  refine .agg vs ds (by simp [D.cells] at h1 h2; omega) fun j hj => ?_
  have := h3 j hj
  simp only [D.cells] at this
  simpa [Array.getD_eq_getD_getElem?, List.getD_eq_getElem?_getD] using this
end
def doorE (w : World) : Env := ⟨old w, fun _ => 0, fun _ => False, fun _ => 0, fun _ _ => False, fun _ _ => undef⟩
theorem ok_calls {P : Program} {f : Nat} {args : List A} {vs : List Value} {w : World} (h : Ok P f args [] (.v (.bool true)) []) (hl : vs.length = args.length) (hr : ∀ (j : Nat) (hj : j < args.length), Rep (doorE w) w (vs.getD j undef) args[j]) :
    Calls P f vs.toArray w fun e w' => e = .returned (.bool true) ∧ Below w.heap.size w w' := by
  let cx : Cx := { P := P, ro := none, w0 := w, Bin := fun _ => False, N := 0, R0 := old w, tk0 := fun _ _ => undef, bl0 := fun _ => 0, vk := fun k => isVar (objL [] k) }
  have hi : Inv cx (doorE w) (objL []) w := by
    refine ⟨fun k o h => (by cases h), fun k _ b h => h, fun k k' b h => h.elim, fun k b h => h.elim, fun b h => ⟨h, id⟩, fun _ _ _ => rfl, Nat.le_refl _, rfl, rfl, rfl, rfl, rfl, fun k h => (by cases h), List.nodup_nil, fun b h => (by cases h)⟩
  have hc := h.2 cx (doorE w) vs rfl rfl (fun _ => rfl) hi hl hr
  refine (CallsIn.mono hc ?_).calls (fun k d hd => by cases hd)
  rintro e w' ⟨v, E', rfl, hi', hv⟩
  refine ⟨?_, hi'.os, hi'.tape, hi'.output, hi'.size, fun k hk => hi'.frame k hk id⟩
  cases hv with
  | v _ _ h => cases h with | bool b => rfl
end Go.AL
namespace Go.Proofs.YtcpeehkeilfbfaaGreat
open Go.ChangeShapes Go.WideShapes Go.ChangeAt Go.RowKit Go.AL
theorem own : ownKnob Tryz.prog.godebug = none := by kernel_rfl
theorem laidOut : laidOutB Tryz.prog = true := by kernel_rfl
theorem inputs_walk {v0 : Value} {n : Int} {W : World} {f : AL.Fn} (hf : f.Ranges) (h0 : RO (old W) W v0 (fnD f)) :
    Calls Tryz.prog 4 #[v0, .int .i64 n] W fun e W' => e = .returned (.bool true) ∧ Below W.heap.size W W' :=
  ok_calls (vs := [v0, .int .i64 n]) (c4 f n hf) rfl fun j hj => by
    match j, hj with
    | 0, _ => exact .dat none _ _ h0
    | 1, _ => exact .v _ _ (.int _ _)
set_option maxRecDepth 100000 in
theorem inputs_lifted (os : Os) (started : os.Started) (H : Type) (enc : TypeId × Value → H) :
    ReturnsInHanded {} Tryz.checked os 4 .any (Rows.fuzzInputsSpec.pre6 enc Tryz.prog Tryz.f4 Rows.fuzzInputsRow.domain false) (Rows.fuzzInputsSpec.post enc Tryz.prog Tryz.f4 false true false false) := by
  refine returnsInHanded_of_change (C := Tryz.checked) own started (by kernel_rfl) Tryz.func4
    (ChangeSpec.witness6 (enc := enc) (C := Tryz.checked) false ⟨#[], #[.agg #[.slice none 0 0, .int .i64 0, .slice none 0 0, .slice none 0 0], .int .i64 0], []⟩ 8 (by kernel_rfl) (by kernel_rfl) (by kernel_rfl) (by kernel_rfl)) ?_
  intro W base args ds gs before hval0 hW hcnd _
  have hval : ∀ (j : Nat) t v, Tryz.f4.params[j]? = some t → args[j]? = some v → Value.okWide Tryz.prog W .any base t v := hval0
  have hW' := hW
  obtain ⟨p, q, hA0, hV, rfl, hfz, hnd⟩ := hW
  have hA : DataW.TrodAll enc Tryz.prog W 0 (fun _ => true) true Tryz.f4.params.toList args.toList ds p := hA0
  have hp4 : Tryz.f4.params = #[27, 3] := rfl
  rw [hp4] at hA hval
  obtain ⟨v0, v1, d0, d1, p0, p1, rfl, rfl, rfl, h0, h1⟩ := trodAll_two hA
  obtain ⟨rfl, rfl⟩ := trodVars_none hV
  have lt0 : ∀ x ∈ p0, x.block < W.heap.size := by obtain ⟨m, hm⟩ := h0; exact DataW.trod_lt m _ _ _ hm
  obtain ⟨cs, rfl, _⟩ := okWide_struct u27 (hval 0 27 v0 rfl rfl)
  obtain ⟨f, hf, hro⟩ : ∃ f : AL.Fn, f.Ranges ∧ RO (old W) W (.agg cs) (fnD f) := by
    obtain ⟨m, hm⟩ := h0
    obtain ⟨f, h1, h2⟩ := read_fn hm
    exact ⟨f, h1, cells_agg h2⟩
  obtain ⟨n, rfl, rfl, rfl, w1⟩ := open_int (k := .i64) u3 (hval 1 3 v1 rfl rfl) h1
  clear hA0 hval0
  refine (inputs_walk (n := n) hf hro).mono fun e W' ⟨he, bel⟩ => ?_
  subst he
  exact ⟨_, rfl, _, _, _, [], _, [], hW', trodAll_mk1 (shut_bool u4 _), (trodAll_cons_mk (Below.trod laidOut (by kernel_rfl) (of_decide_eq_true (by kernel_rfl)) h0 bel lt0) (trodAll_cons_mk (shut_int u3 w1) trodAll_mk0)), rfl, bel.frame _, fun h => by cases h⟩
theorem inputs_over : Rows.fuzzInputsRow.holds Tryz.pinned (OpenSpec.ofChange Rows.fuzzInputsSpec) :=
  OpenClaim.holds_of_wide 4 Tryz.f4 rfl rfl rfl rfl rfl rfl rfl ⟨rfl, rfl, rfl, rfl, rfl⟩ rfl rfl rfl rfl rfl (by kernel_rfl) Tryz.func4 (by kernel_rfl)
    (of_decide_eq_true (by kernel_rfl)) (by unfold Func.isWrapper; first | (rw [if_pos (by decide +kernel)]; kernel_rfl) | (rw [if_neg (by decide +kernel)]; exact ⟨rfl, rfl⟩))
    (fun os started H enc _ => inputs_lifted os started H enc)
theorem fuzzInputs_proved : Rows.FuzzInputsSaid := inputs_over
#print axioms fuzzInputs_proved
end Go.Proofs.YtcpeehkeilfbfaaGreat
