/- Each Go function of the laws answers as its plain Lean function tells, wherever that tells something. Printed by wip/eng/gen.py. -/
import Derived.Test.YtiegghohcghmkaaWalk2
namespace Go.Proofs.Ytiegghohcghmkaa.M
open Go Go.Eng Go.Proofs Go.RowKit
set_option linter.unusedVariables false
set_option linter.unusedSimpArgs false

/-! ### catchment/catchmentref02.Check: function 21 -/
set_option maxHeartbeats 4000000 in
set_option maxRecDepth 100000 in
theorem ref02_Check.calls (a0 : api_Table) {w0 : World} {RA : Hp} {v0_0 : Value} {v0_1 : Value} (hRA : RA.sub w0) (h0_0 : SlR ty_api_Col RA v0_0 a0.Cols) (h0_1 : SlR (tySl ty_api_Value) RA v0_1 a0.Rows) {r : Int} (H : ref02_Check a0 = some r) : CallsV Try.prog 21 #[.agg #[v0_0, v0_1]] w0 (.int .i64 r) := by
  unfold ref02_Check at H
  refine enter (args := [.agg #[v0_0, v0_1]]) Try.func21 rfl Try.ntmps21 rfl fun a hK => ?_
  have hS := St.init (R := fun _ => none) (w := w0) (fun _ _ h => by cases h)
  have hRL := RLe.refl (M := []) w0 (fun _ => none)
  refine wp_seq ?_
  refine wp_region_lit ?_
  refine sl_box hS hK (by decide) rfl rfl (c := [v0_0, v0_1]) rfl fun a w b_1 hS hK => ?_
  refine sl hK (by decide) rfl rfl (r_assign hK rfl) fun a hK => ?_
  refine wpList_nil ?_
  refine wp_seq ?_
  refine wp_seq ?_
  refine wp_region_lit ?_
  refine sl hK (by decide) rfl rfl (r_fieldAddr Try.underlying47 rfl Try.sizeOf24 hK rfl) fun a hK => ?_
  refine sl hK (by decide) rfl rfl (r_load Try.isAgg24 hK rfl (hS.cell (.head _) rfl)) fun a hK => ?_
  obtain ⟨y_2, h_3, H⟩ := bind_some H
  refine sl_callV Try.call34 hS hK (by decide) rfl rfl rfl (ref02_Cols.calls a0.Cols (lentOf_sub [] _) (h0_0.mono (hS.raLe0 hRA nil_not)) h_3) fun a w hS hK => ?_
  refine sl hK (by decide) rfl rfl (r_un hK rfl (u_not _)) fun a hK => ?_
  refine wpList_nil ?_
  refine wp_cond_split (hK.ev rfl) (fun (hb_4 : (!y_2) = true) => ?_) (fun (hb_4 : (!y_2) = false) => ?_)
  · rw [ifb_t hb_4] at H
    refine wp_seq ?_
    refine wp_region_lit ?_
    refine sl hK (by decide) rfl rfl (r_assign hK rfl) fun a hK => ?_
    refine wpList_nil ?_
    obtain rfl := Option.some.inj H
    refine wp_ret ?_
    repeat (first | refine ret_then ?_ | refine ret_block ?_ | refine ret_scope ?_)
    exact ret_1 Try.results21 hK (rv_tmp hK rfl) ⟨rfl, hS.bel⟩
  · rw [ifb_f hb_4] at H
    refine wp_skip ?_
    refine wp_seq ?_
    refine wp_seq ?_
    refine wp_region_lit ?_
    refine sl hK (by decide) rfl rfl (r_assign hK rfl) fun a hK => ?_
    refine wpList_nil ?_
    refine wp_block ?_
    refine wp_loop_k (fun k_l0 a w => ∃ (x_669 : Int), ref02_Check.l0 a0 k_l0 x_669 = some r ∧ Kn 61 a [(1, .pointer (some ⟨b_1, 0, none⟩)), (3, .int .i64 x_669)] ∧ St [] w0 w (fun _ => none) [.cells b_1 [v0_0, v0_1] 47]) (((a0.Rows.length : Int) - 0).toNat + 1) ?_ ?_
    · exact ⟨0, H, hK.sub (all_cons rfl (all_cons rfl (all_nil))), hS⟩
    · rintro k_l0 a w ⟨x_669, H, hK, hS⟩
      cases k_l0 with
      | zero => cases H
      | succ k_l0 =>
      rw [ref02_Check.l0.eq_2] at H
      refine wp_seq ?_
      refine wp_seq ?_
      refine wp_region_lit ?_
      refine sl hK (by decide) rfl rfl (r_move hK rfl) fun a hK => ?_
      refine sl hK (by decide) rfl rfl (r_fieldAddr Try.underlying47 rfl Try.sizeOf45 hK rfl) fun a hK => ?_
      refine sl hK (by decide) rfl rfl (r_load Try.isAgg45 hK rfl (hS.cell (.head _) rfl)) fun a hK => ?_
      refine sl hK (by decide) rfl rfl (r_len_R Try.underlying45 h0_1 hK rfl) fun a hK => ?_
      refine sl hK (by decide) rfl rfl (r_ibin hK rfl rfl rfl) fun a hK => ?_
      refine wpList_nil ?_
      refine wp_cond_split (hK.ev rfl) (fun (hb_1334 : (decide (x_669 < (a0.Rows.length : Int))) = true) => ?_) (fun (hb_1334 : (decide (x_669 < (a0.Rows.length : Int))) = false) => ?_)
      · rw [ifb_t hb_1334] at H
        refine wp_skip ?_
        refine wp_seq ?_
        refine wp_block ?_
        refine wp_seq ?_
        refine wp_seq ?_
        refine par_region (C := fun w => St [] w0 w (fun _ => none) [.cells b_1 [v0_0, v0_1] 47]) [(0, true), (1, true), (2, true), (3, true), (4, true), (5, true), (6, true), (7, true), (8, true), (9, true)] mixed (by kernel_rfl) hS (fun w hS => hS) fun w hS => ?_
        refine sp (k := 0) rfl hK (by decide) rfl rfl (fun w hS => r_fieldAddr Try.underlying47 rfl Try.sizeOf45 hK rfl) fun a hK => ?_
        refine sp (k := 1) rfl hK (by decide) rfl rfl (fun w hS => r_load Try.isAgg45 hK rfl (hS.cell (.head _) rfl)) fun a hK => ?_
        refine sp (k := 2) rfl hK (by decide) rfl rfl (fun w hS => r_move hK rfl) fun a hK => ?_
        obtain ⟨y_1346, h_1347, H⟩ := bind_some H
        obtain ⟨b_1348, o_1349, c_1350, cs_1351, hv_1352, hr_1353, hc_1354, h_13470, h_13471⟩ := h0_1.ix h_1347
        obtain ⟨v_1355, rfl, hs_1356⟩ := hr_1353
        refine sp (k := 3) rfl hK (by decide) rfl rfl (fun w hS => r_indexAddr_R Try.underlying45 Try.sizeOf36 hv_1352 h_13470 h_13471 hK rfl rfl) fun a hK => ?_
        refine sp (k := 4) rfl hK (by decide) rfl rfl (fun w hS => r_load Try.isAgg36 hK rfl ((hS.ra hRA nil_not).cell (hc_1354 0 _ rfl))) fun a hK => ?_
        refine sp (k := 5) rfl hK (by decide) rfl rfl (fun w hS => r_len_R Try.underlying36 hs_1356 hK rfl) fun a hK => ?_
        refine sp (k := 6) rfl hK (by decide) rfl rfl (fun w hS => r_fieldAddr Try.underlying47 rfl Try.sizeOf24 hK rfl) fun a hK => ?_
        refine sp (k := 7) rfl hK (by decide) rfl rfl (fun w hS => r_load Try.isAgg24 hK rfl (hS.cell (.head _) rfl)) fun a hK => ?_
        refine sp (k := 8) rfl hK (by decide) rfl rfl (fun w hS => r_len_R Try.underlying24 h0_0 hK rfl) fun a hK => ?_
        refine sp (k := 9) rfl hK (by decide) rfl rfl (fun w hS => r_ibin hK rfl rfl rfl) fun a hK => ?_
        refine wpPar_nil (NoP_nil ?_)
        refine wp_cond_split (hK.ev rfl) (fun (hb_1357 : ((y_1346.length : Int) != (a0.Cols.length : Int)) = true) => ?_) (fun (hb_1357 : ((y_1346.length : Int) != (a0.Cols.length : Int)) = false) => ?_)
        · rw [ifb_t hb_1357] at H
          refine wp_seq ?_
          refine wp_region_lit ?_
          refine sl hK (by decide) rfl rfl (r_assign hK rfl) fun a hK => ?_
          refine wpList_nil ?_
          obtain rfl := Option.some.inj H
          refine wp_ret ?_
          repeat (first | refine ret_then ?_ | refine ret_block ?_ | refine ret_scope ?_)
          exact ret_1 Try.results21 hK (rv_tmp hK rfl) ⟨rfl, hS.bel⟩
        · rw [ifb_f hb_1357] at H
          refine wp_skip ?_
          refine wp_seq ?_
          refine wp_region_lit ?_
          refine sl hK (by decide) rfl rfl (r_assign hK rfl) fun a hK => ?_
          refine wpList_nil ?_
          refine wp_block ?_
          refine wp_loop_k (fun k_l1 a w => ∃ (x_1571 : Int), ref02_Check.l1 (ref02_Check.l0 a0 k_l0) a0 x_669 k_l1 x_1571 = some r ∧ Kn 61 a [(1, .pointer (some ⟨b_1, 0, none⟩)), (3, .int .i64 x_669), (4, .int .i64 x_1571)] ∧ St [] w0 w (fun _ => none) [.cells b_1 [v0_0, v0_1] 47]) (((a0.Cols.length : Int) - 0).toNat + 1) ?_ ?_
          · exact ⟨0, H, hK.sub (all_cons rfl (all_cons rfl (all_cons rfl (all_nil)))), hS⟩
          · rintro k_l1 a w ⟨x_1571, H, hK, hS⟩
            cases k_l1 with
            | zero => cases H
            | succ k_l1 =>
            rw [ref02_Check.l1.eq_2] at H
            refine wp_seq ?_
            refine wp_seq ?_
            refine wp_region_lit ?_
            refine sl hK (by decide) rfl rfl (r_move hK rfl) fun a hK => ?_
            refine sl hK (by decide) rfl rfl (r_fieldAddr Try.underlying47 rfl Try.sizeOf24 hK rfl) fun a hK => ?_
            refine sl hK (by decide) rfl rfl (r_load Try.isAgg24 hK rfl (hS.cell (.head _) rfl)) fun a hK => ?_
            refine sl hK (by decide) rfl rfl (r_len_R Try.underlying24 h0_0 hK rfl) fun a hK => ?_
            refine sl hK (by decide) rfl rfl (r_ibin hK rfl rfl rfl) fun a hK => ?_
            refine wpList_nil ?_
            refine wp_cond_split (hK.ev rfl) (fun (hb_1785 : (decide (x_1571 < (a0.Cols.length : Int))) = true) => ?_) (fun (hb_1785 : (decide (x_1571 < (a0.Cols.length : Int))) = false) => ?_)
            · rw [ifb_t hb_1785] at H
              refine wp_skip ?_
              refine wp_seq ?_
              refine wp_block ?_
              refine wp_seq ?_
              refine wp_mid (fun a w => ∃ (x_1890 : Bool), ref02_Check.j2 (ref02_Check.l1 (ref02_Check.l0 a0 k_l0) a0 x_669 k_l1) a0 x_1571 x_1890 = some r ∧ Kn 61 a [(1, .pointer (some ⟨b_1, 0, none⟩)), (3, .int .i64 x_669), (4, .int .i64 x_1571), (60, .bool x_1890)] ∧ St [] w0 w (fun _ => none) [.cells b_1 [v0_0, v0_1] 47]) ?_ ?_
              · refine parT_region (C := fun w => St [] w0 w (fun _ => none) [.cells b_1 [v0_0, v0_1] 47]) 23 [(0, true), (1, true), (2, true), (3, true), (4, true), (5, true), (6, true), (7, true), (8, true), (9, true), (10, true), (11, true), (12, true), (13, true), (14, true), (15, true), (16, true), (17, true), (18, true), (19, true), (20, true), (21, true), (22, true)] mixed (by kernel_rfl) hS (fun w hS => hS) fun w hS => ?_
                refine sp (k := 0) rfl hK (by decide) rfl rfl (fun w hS => r_fieldAddr Try.underlying47 rfl Try.sizeOf45 hK rfl) fun a hK => ?_
                refine sp (k := 1) rfl hK (by decide) rfl rfl (fun w hS => r_load Try.isAgg45 hK rfl (hS.cell (.head _) rfl)) fun a hK => ?_
                refine sp (k := 2) rfl hK (by decide) rfl rfl (fun w hS => r_move hK rfl) fun a hK => ?_
                obtain ⟨y_1944, h_1945, H⟩ := bind_some H
                obtain ⟨b_1946, o_1947, c_1948, cs_1949, hv_1950, hr_1951, hc_1952, h_19450, h_19451⟩ := h0_1.ix h_1945
                obtain ⟨v_1953, rfl, hs_1954⟩ := hr_1951
                refine sp (k := 3) rfl hK (by decide) rfl rfl (fun w hS => r_indexAddr_R Try.underlying45 Try.sizeOf36 hv_1950 h_19450 h_19451 hK rfl rfl) fun a hK => ?_
                refine sp (k := 4) rfl hK (by decide) rfl rfl (fun w hS => r_load Try.isAgg36 hK rfl ((hS.ra hRA nil_not).cell (hc_1952 0 _ rfl))) fun a hK => ?_
                refine sp (k := 5) rfl hK (by decide) rfl rfl (fun w hS => r_move hK rfl) fun a hK => ?_
                obtain ⟨y_1955, h_1956, H⟩ := bind_some H
                obtain ⟨b_1957, o_1958, c_1959, cs_1960, hv_1961, hr_1962, hc_1963, h_19560, h_19561⟩ := hs_1954.ix h_1956
                subst hr_1962
                refine sp (k := 6) rfl hK (by decide) rfl rfl (fun w hS => r_indexAddr_R Try.underlying36 Try.sizeOf43 hv_1961 h_19560 h_19561 hK rfl rfl) fun a hK => ?_
                refine sp (k := 7) rfl hK (by decide) rfl rfl (fun w hS => r_fieldAddr Try.underlying43 rfl Try.sizeOf3 hK rfl) fun a hK => ?_
                refine sp (k := 8) rfl hK (by decide) rfl rfl (fun w hS => r_load Try.isAgg3 hK rfl ((hS.ra hRA nil_not).cell (hc_1963 0 _ rfl))) fun a hK => ?_
                refine sp (k := 9) rfl hK (by decide) rfl rfl (fun w hS => r_fieldAddr Try.underlying47 rfl Try.sizeOf24 hK rfl) fun a hK => ?_
                refine sp (k := 10) rfl hK (by decide) rfl rfl (fun w hS => r_load Try.isAgg24 hK rfl (hS.cell (.head _) rfl)) fun a hK => ?_
                refine sp (k := 11) rfl hK (by decide) rfl rfl (fun w hS => r_move hK rfl) fun a hK => ?_
                obtain ⟨y_1964, h_1965, H⟩ := bind_some H
                obtain ⟨b_1966, o_1967, c_1968, cs_1969, hv_1970, hr_1971, hc_1972, h_19650, h_19651⟩ := h0_0.ix h_1965
                subst hr_1971
                refine sp (k := 12) rfl hK (by decide) rfl rfl (fun w hS => r_indexAddr_R Try.underlying24 Try.sizeOf52 hv_1970 h_19650 h_19651 hK rfl rfl) fun a hK => ?_
                refine sp (k := 13) rfl hK (by decide) rfl rfl (fun w hS => r_fieldAddr Try.underlying52 rfl Try.sizeOf3 hK rfl) fun a hK => ?_
                refine sp (k := 14) rfl hK (by decide) rfl rfl (fun w hS => r_load Try.isAgg3 hK rfl ((hS.ra hRA nil_not).cell (hc_1972 1 _ rfl))) fun a hK => ?_
                refine sp (k := 15) rfl hK (by decide) rfl rfl (fun w hS => r_ibin hK rfl rfl rfl) fun a hK => ?_
                refine sp (k := 16) rfl hK (by decide) rfl rfl (fun w hS => r_move hK rfl) fun a hK => ?_
                rcases or_b (y_1955.Kind != y_1964.Kind) with hb_1973 | hb_1973
                · rw [ifb_t hb_1973] at H
                  refine sp_skip (k := 17) rfl hK (by decide) (wft hb_1973) rfl fun a hK => ?_
                  refine sp_skip (k := 18) rfl hK (by decide) (wft hb_1973) rfl fun a hK => ?_
                  refine sp_skip (k := 19) rfl hK (by decide) (wft hb_1973) rfl fun a hK => ?_
                  refine sp_skip (k := 20) rfl hK (by decide) (wft hb_1973) rfl fun a hK => ?_
                  refine sp_skip (k := 21) rfl hK (by decide) (wft hb_1973) rfl fun a hK => ?_
                  refine sp_skip (k := 22) rfl hK (by decide) (wft hb_1973) rfl fun a hK => ?_
                  refine thenL_nil ?_
                  refine sl_skip hK (by decide) (wft hb_1973) rfl fun a hK => ?_
                  refine sl_skip hK (by decide) (wft hb_1973) rfl fun a hK => ?_
                  refine sl_skip hK (by decide) (wft hb_1973) rfl fun a hK => ?_
                  refine sl_skip hK (by decide) (wft hb_1973) rfl fun a hK => ?_
                  refine sl hK (by decide) rfl rfl (r_pick_t hb_1973 hK rfl rfl) fun a hK => ?_
                  refine wpList_nil (NoP_nil ?_)
                  exact ⟨true, H, hK.sub (all_cons rfl (all_cons rfl (all_cons rfl (all_cons rfl (all_nil))))), hS⟩
                · rw [ifb_f hb_1973] at H
                  refine sp (k := 17) rfl hK (by decide) (wff hb_1973) rfl (fun w hS => r_fieldAddr Try.underlying47 rfl Try.sizeOf45 hK rfl) fun a hK => ?_
                  refine sp (k := 18) rfl hK (by decide) (wff hb_1973) rfl (fun w hS => r_load Try.isAgg45 hK rfl (hS.cell (.head _) rfl)) fun a hK => ?_
                  refine sp (k := 19) rfl hK (by decide) (wff hb_1973) rfl (fun w hS => r_move hK rfl) fun a hK => ?_
                  obtain ⟨y_1974, h_1975, H⟩ := bind_some H
                  obtain ⟨b_1976, o_1977, c_1978, cs_1979, hv_1980, hr_1981, hc_1982, h_19750, h_19751⟩ := h0_1.ix h_1975
                  obtain ⟨v_1983, rfl, hs_1984⟩ := hr_1981
                  refine sp (k := 20) rfl hK (by decide) (wff hb_1973) rfl (fun w hS => r_indexAddr_R Try.underlying45 Try.sizeOf36 hv_1980 h_19750 h_19751 hK rfl rfl) fun a hK => ?_
                  refine sp (k := 21) rfl hK (by decide) (wff hb_1973) rfl (fun w hS => r_load Try.isAgg36 hK rfl ((hS.ra hRA nil_not).cell (hc_1982 0 _ rfl))) fun a hK => ?_
                  refine sp (k := 22) rfl hK (by decide) (wff hb_1973) rfl (fun w hS => r_move hK rfl) fun a hK => ?_
                  refine thenL_nil ?_
                  obtain ⟨y_1985, h_1986, H⟩ := bind_some H
                  obtain ⟨b_1987, o_1988, c_1989, cs_1990, hv_1991, hr_1992, hc_1993, h_19860, h_19861⟩ := hs_1984.ix h_1986
                  subst hr_1992
                  refine sl hK (by decide) (wff hb_1973) rfl (r_indexAddr_R Try.underlying36 Try.sizeOf43 hv_1991 h_19860 h_19861 hK rfl rfl) fun a hK => ?_
                  refine sl hK (by decide) (wff hb_1973) rfl (r_loadA (cs := [.int .i64 y_1985.Kind, .int .i64 y_1985.N, .string y_1985.S, .int .i64 y_1985.H.a0, .int .i64 y_1985.H.a1, .int .i64 y_1985.H.a2, .int .i64 y_1985.H.a3, .int .i64 y_1985.H.a4, .int .i64 y_1985.H.a5, .int .i64 y_1985.H.a6, .int .i64 y_1985.H.a7]) Try.isAgg43 Try.sizeOf43 rfl hK rfl (fun j v hv => (hS.ra hRA nil_not).cell (hc_1993 j v hv))) fun a hK => ?_
                  obtain ⟨y_1994, h_1995, H⟩ := bind_some H
                  refine sl_callV Try.call35 hS hK (by decide) (wff hb_1973) rfl rfl (ref01_Valid.calls y_1985 h_1995 _) fun a w hS hK => ?_
                  refine sl hK (by decide) (wff hb_1973) rfl (r_un hK rfl (u_not _)) fun a hK => ?_
                  refine sl hK (by decide) rfl rfl (r_pick_f hb_1973 hK rfl rfl) fun a hK => ?_
                  refine wpList_nil (NoP_nil ?_)
                  exact ⟨(!y_1994), H, hK.sub (all_cons rfl (all_cons rfl (all_cons rfl (all_cons rfl (all_nil))))), hS⟩
              · rintro a w ⟨x_1890, H, hK, hS⟩
                unfold ref02_Check.j2 at H
                refine wp_cond_split (hK.ev rfl) (fun (hb_1996 : x_1890 = true) => ?_) (fun (hb_1996 : x_1890 = false) => ?_)
                · rw [ifb_t hb_1996] at H
                  refine wp_seq ?_
                  refine wp_region_lit ?_
                  refine sl hK (by decide) rfl rfl (r_assign hK rfl) fun a hK => ?_
                  refine wpList_nil ?_
                  obtain rfl := Option.some.inj H
                  refine wp_ret ?_
                  repeat (first | refine ret_then ?_ | refine ret_block ?_ | refine ret_scope ?_)
                  exact ret_1 Try.results21 hK (rv_tmp hK rfl) ⟨rfl, hS.bel⟩
                · rw [ifb_f hb_1996] at H
                  refine wp_skip ?_
                  refine wp_region_lit ?_
                  refine sl hK (by decide) rfl rfl (r_move hK rfl) fun a hK => ?_
                  refine sl hK (by decide) rfl rfl (r_ibin hK rfl rfl rfl) fun a hK => ?_
                  refine sl hK (by decide) rfl rfl (r_assign hK rfl) fun a hK => ?_
                  refine wpList_nil ?_
                  exact ⟨_, Nat.lt_succ_self _, (IntKind.i64.wrap (x_1571 + 1)), H, hK.sub (all_cons rfl (all_cons rfl (all_cons rfl (all_nil)))), hS⟩
            · rw [ifb_f hb_1785] at H
              refine wp_exit ?_
              refine wp_region_lit ?_
              refine sl hK (by decide) rfl rfl (r_move hK rfl) fun a hK => ?_
              refine sl hK (by decide) rfl rfl (r_ibin hK rfl rfl rfl) fun a hK => ?_
              refine sl hK (by decide) rfl rfl (r_assign hK rfl) fun a hK => ?_
              refine wpList_nil ?_
              exact ⟨_, Nat.lt_succ_self _, (IntKind.i64.wrap (x_669 + 1)), H, hK.sub (all_cons rfl (all_cons rfl (all_nil))), hS⟩
      · rw [ifb_f hb_1334] at H
        refine wp_exit ?_
        refine wp_seq ?_
        refine wp_region_lit ?_
        refine sl hK (by decide) rfl rfl (r_assign hK rfl) fun a hK => ?_
        refine wpList_nil ?_
        obtain rfl := Option.some.inj H
        refine wp_ret ?_
        repeat (first | refine ret_then ?_ | refine ret_block ?_ | refine ret_scope ?_)
        exact ret_1 Try.results21 hK (rv_tmp hK rfl) ⟨rfl, hS.bel⟩

/-! ### catchment/catchmentlaw05.SchemaTables: function 5 -/
set_option maxHeartbeats 4000000 in
set_option maxRecDepth 100000 in
theorem law05_SchemaTables.calls (a0 : List api_Schema) (a1 : api_Point) {w0 : World} {R : Hp} {RA : Hp} {v0_0 : Value} {v1_0 : Value} {v1_1 : Value} (hRA : RA.sub w0) (hR : R.sub w0) (h0_0 : SlR ty_api_Schema R v0_0 a0) (h1_0 : SlR ty_api_Value RA v1_0 a1.Keys) (h1_1 : SlR ty_api_Value RA v1_1 a1.Vals) {gm : Int} (hG : RA.cell 0 0 = some (.int .i64 gm)) (H : law05_SchemaTables a0 a1 = some true) : CallsV Try.prog 5 #[v0_0, .agg #[.string a1.Schema, v1_0, .int .i64 a1.Time, v1_1]] w0 (.bool true) := by
  unfold law05_SchemaTables at H
  refine enter (args := [v0_0, .agg #[.string a1.Schema, v1_0, .int .i64 a1.Time, v1_1]]) Try.func5 rfl Try.ntmps5 rfl fun a hK => ?_
  have hS := St.init hR
  have hRL := RLe.refl (M := []) w0 R
  refine wp_seq ?_
  refine wp_region_lit ?_
  refine sl_box hS hK (by decide) rfl rfl (c := [.string a1.Schema, v1_0, .int .i64 a1.Time, v1_1]) rfl fun a w b_1 hS hK => ?_
  refine sl hK (by decide) rfl rfl (r_assign hK rfl) fun a hK => ?_
  refine wpList_nil ?_
  refine wp_seq ?_
  refine wp_region_lit ?_
  obtain ⟨y_2, h_3, H⟩ := bind_some H
  refine sl_callV Try.call8 hS hK (by decide) rfl rfl rfl (law05_shown.calls (lentOf_sub [] _) (Hp.cell_le (hS.raLe0 hRA nil_not) hG) h_3) fun a w hS hK => ?_
  refine sl hK (by decide) rfl rfl (r_assign hK rfl) fun a hK => ?_
  refine wpList_nil ?_
  refine wp_seq ?_
  refine wp_seq ?_
  refine wp_mid (fun a w => ∃ (x_10 : Bool), law05_SchemaTables.j0 a0 a1 y_2 x_10 = some true ∧ Kn 55 a [(0, v0_0), (3, .pointer (some ⟨b_1, 0, none⟩)), (5, .bool y_2), (23, .bool x_10)] ∧ St [] w0 w R [.cells b_1 [.string a1.Schema, v1_0, .int .i64 a1.Time, v1_1] 38]) ?_ ?_
  · refine wp_region_lit ?_
    refine sl hK (by decide) rfl rfl (r_move hK rfl) fun a hK => ?_
    refine sl hK (by decide) rfl rfl (r_len_R Try.underlying22 h0_0 hK rfl) fun a hK => ?_
    refine sl hK (by decide) rfl rfl (r_ibin hK rfl rfl rfl) fun a hK => ?_
    refine sl hK (by decide) rfl rfl (r_move hK rfl) fun a hK => ?_
    rcases or_b (decide ((a0.length : Int) > 20)) with hb_12 | hb_12
    · rw [ifb_t hb_12] at H
      refine sl_skip hK (by decide) (wft hb_12) rfl fun a hK => ?_
      refine sl_skip hK (by decide) (wft hb_12) rfl fun a hK => ?_
      refine sl_skip hK (by decide) (wft hb_12) rfl fun a hK => ?_
      refine sl hK (by decide) rfl rfl (r_pick_t hb_12 hK rfl rfl) fun a hK => ?_
      refine sl hK (by decide) rfl rfl (r_move hK rfl) fun a hK => ?_
      refine sl_skip hK (by decide) rfl rfl fun a hK => ?_
      refine sl_skip hK (by decide) rfl rfl fun a hK => ?_
      refine sl_skip hK (by decide) rfl rfl fun a hK => ?_
      refine sl_skip hK (by decide) rfl rfl fun a hK => ?_
      refine sl hK (by decide) rfl rfl (r_pick hK rfl rfl rfl) fun a hK => ?_
      refine wpList_nil ?_
      exact ⟨true, H, hK.sub (all_cons rfl (all_cons rfl (all_cons rfl (all_cons rfl (all_nil))))), hS⟩
    · rw [ifb_f hb_12] at H
      refine sl hK (by decide) (wff hb_12) rfl (r_move hK rfl) fun a hK => ?_
      obtain ⟨y_13, h_14, H⟩ := bind_some H
      refine sl_callV Try.call17 hS hK (by decide) (wff hb_12) rfl rfl (schema_Check.calls a0 (lentOf_sub [] _) hS.sub h0_0 (Hp.cell_le (hS.raLe0 hRA nil_not) hG) h_14) fun a w hS hK => ?_
      refine sl hK (by decide) (wff hb_12) rfl (r_ibin hK rfl rfl rfl) fun a hK => ?_
      refine sl hK (by decide) rfl rfl (r_pick_f hb_12 hK rfl rfl) fun a hK => ?_
      refine sl hK (by decide) rfl rfl (r_move hK rfl) fun a hK => ?_
      rcases or_b (y_13 != 0) with hb_15 | hb_15
      · rw [ifb_t hb_15] at H
        refine sl_skip hK (by decide) (wft hb_15) rfl fun a hK => ?_
        refine sl_skip hK (by decide) (wft hb_15) rfl fun a hK => ?_
        refine sl_skip hK (by decide) (wft hb_15) rfl fun a hK => ?_
        refine sl_skip hK (by decide) (wft hb_15) rfl fun a hK => ?_
        refine sl hK (by decide) rfl rfl (r_pick_t hb_15 hK rfl rfl) fun a hK => ?_
        refine wpList_nil ?_
        exact ⟨true, H, hK.sub (all_cons rfl (all_cons rfl (all_cons rfl (all_cons rfl (all_nil))))), hS⟩
      · rw [ifb_f hb_15] at H
        refine sl hK (by decide) (wff hb_15) rfl (r_move hK rfl) fun a hK => ?_
        refine sl hK (by decide) (wff hb_15) rfl (r_loadA (cs := [.string a1.Schema, v1_0, .int .i64 a1.Time, v1_1]) Try.isAgg38 Try.sizeOf38 rfl hK rfl (hS.cells_of (m := 4) (.head _) rfl)) fun a hK => ?_
        obtain ⟨y_16, h_17, H⟩ := bind_some H
        refine sl_callV Try.call19 hS hK (by decide) (wff hb_15) rfl rfl (schema_Fits.calls a0 a1 (lentOf_sub [] _) hS.sub h0_0 (h1_0.mono (hS.raLe0 hRA nil_not)) (h1_1.mono (hS.raLe0 hRA nil_not)) h_17) fun a w hS hK => ?_
        refine sl hK (by decide) (wff hb_15) rfl (r_ibin hK rfl rfl rfl) fun a hK => ?_
        refine sl hK (by decide) rfl rfl (r_pick_f hb_15 hK rfl rfl) fun a hK => ?_
        refine wpList_nil ?_
        exact ⟨(y_16 != 0), H, hK.sub (all_cons rfl (all_cons rfl (all_cons rfl (all_cons rfl (all_nil))))), hS⟩
  · rintro a w ⟨x_10, H, hK, hS⟩
    unfold law05_SchemaTables.j0 at H
    refine wp_cond_split (hK.ev rfl) (fun (hb_18 : x_10 = true) => ?_) (fun (hb_18 : x_10 = false) => ?_)
    · rw [ifb_t hb_18] at H
      refine wp_seq ?_
      refine wp_region_lit ?_
      refine sl hK (by decide) rfl rfl (r_move hK rfl) fun a hK => ?_
      refine sl hK (by decide) rfl rfl (r_assign hK rfl) fun a hK => ?_
      refine wpList_nil ?_
      have hr_ := Option.some.inj H
      refine wp_ret ?_
      repeat (first | refine ret_then ?_ | refine ret_block ?_ | refine ret_scope ?_)
      exact ret_1 Try.results5 hK (rv_tmp hK rfl) ⟨congrArg (fun b => Ending.returned (Value.bool b)) hr_, hS.bel⟩
    · rw [ifb_f hb_18] at H
      refine wp_skip ?_
      refine wp_seq ?_
      refine wp_region_lit ?_
      refine sl hK (by decide) rfl rfl (r_move hK rfl) fun a hK => ?_
      refine sl hK (by decide) rfl rfl (r_fieldAddr Try.underlying38 rfl Try.sizeOf9 hK rfl) fun a hK => ?_
      refine sl hK (by decide) rfl rfl (r_load Try.isAgg9 hK rfl (hS.cell (.head _) rfl)) fun a hK => ?_
      obtain ⟨y_19, h_20, H⟩ := bind_some H
      refine sl_call Try.call9 hK (by decide) rfl rfl rfl (schema_Find.calls a0 a1.Schema hS.sub h0_0 h_20) fun a v_ w hv_ hK => ?_
      obtain ⟨R_21, v_23, v_25, hv_, hr_, hl_22, hs_24, hs_26⟩ := hv_
      have hv_ := hv_.symm
      subst hv_
      obtain ⟨hS, hl_22⟩ := hS.sp0.back hr_ hl_22
      have hS := hS.un0
      have hRL := hRL.trans hl_22
      refine sl hK (by decide) rfl rfl (r_move hK rfl) fun a hK => ?_
      refine sl hK (by decide) rfl rfl (r_extract hK rfl rfl) fun a hK => ?_
      refine sl hK (by decide) rfl rfl (r_extract hK rfl rfl) fun a hK => ?_
      refine sl_alloc Try.zeroValue26 hS hK (by decide) rfl rfl fun a w b_27 hS hK => ?_
      refine sl_storeA (vs := [.string y_19.1.Name, v_23, v_25]) (c' := [.string y_19.1.Name, v_23, v_25]) Try.sizeOf26 hS hK rfl rfl rfl rfl (all_cons rfl (all_cons hs_24.one (all_cons hs_26.one (all_nil)))) (Nat.le_of_ble_eq_true rfl) rfl fun a w hS hK => ?_
      refine sl hK (by decide) rfl rfl (r_assign hK rfl) fun a hK => ?_
      refine wpList_nil ?_
      refine wp_seq ?_
      refine parT_region (C := fun w => St [] w0 w R_21 [.cells b_27 [.string y_19.1.Name, v_23, v_25] 26, .cells b_1 [.string a1.Schema, v1_0, .int .i64 a1.Time, v1_1] 38]) 9 [(0, true), (1, true), (2, true), (4, true), (5, true), (7, true), (8, true), (3, false), (6, false)] mixed (by kernel_rfl) hS (fun w hS => hS) fun w hS => ?_
      refine sp (k := 0) rfl hK (by decide) rfl rfl (fun w hS => r_fieldAddr Try.underlying38 rfl Try.sizeOf3 hK rfl) fun a hK => ?_
      refine sp (k := 1) rfl hK (by decide) rfl rfl (fun w hS => r_load Try.isAgg3 hK rfl (hS.cell (.tail _ (.head _)) rfl)) fun a hK => ?_
      refine sp (k := 2) rfl hK (by decide) rfl rfl (fun w hS => r_buildC (ps := [(0, .int .i64 1), (1, .int .i64 a1.Time)]) (c := [.int .i64 1, .int .i64 a1.Time, .string (⟨#[]⟩ : ByteArray), .int .i64 0, .int .i64 0, .int .i64 0, .int .i64 0, .int .i64 0, .int .i64 0, .int .i64 0, .int .i64 0]) Try.underlying43 Try.zeroValue43 places43 hK rfl (pc_cons rfl (pc_cons rfl pc_nil)) rfl rfl) fun a hK => ?_
      refine sp (k := 4) rfl hK (by decide) rfl rfl (fun w hS => r_fieldAddr Try.underlying38 rfl Try.sizeOf36 hK rfl) fun a hK => ?_
      refine sp (k := 5) rfl hK (by decide) rfl rfl (fun w hS => r_load Try.isAgg36 hK rfl (hS.cell (.tail _ (.head _)) rfl)) fun a hK => ?_
      refine sp (k := 7) rfl hK (by decide) rfl rfl (fun w hS => r_fieldAddr Try.underlying38 rfl Try.sizeOf36 hK rfl) fun a hK => ?_
      refine sp (k := 8) rfl hK (by decide) rfl rfl (fun w hS => r_load Try.isAgg36 hK rfl (hS.cell (.tail _ (.head _)) rfl)) fun a hK => ?_
      refine spw (k := 3) rfl rfl hS ?_
      refine sl_buildSliceF (zc := [.int .i64 0, .int .i64 0, .string (⟨#[]⟩ : ByteArray), .int .i64 0, .int .i64 0, .int .i64 0, .int .i64 0, .int .i64 0, .int .i64 0, .int .i64 0, .int .i64 0]) (ps := [(0, .agg #[.int .i64 1, .int .i64 a1.Time, .string (⟨#[]⟩ : ByteArray), .int .i64 0, .int .i64 0, .int .i64 0, .int .i64 0, .int .i64 0, .int .i64 0, .int .i64 0, .int .i64 0])]) (c := [.int .i64 1, .int .i64 a1.Time, .string (⟨#[]⟩ : ByteArray), .int .i64 0, .int .i64 0, .int .i64 0, .int .i64 0, .int .i64 0, .int .i64 0, .int .i64 0, .int .i64 0]) [[.int .i64 1, .int .i64 a1.Time, .string (⟨#[]⟩ : ByteArray), .int .i64 0, .int .i64 0, .int .i64 0, .int .i64 0, .int .i64 0, .int .i64 0, .int .i64 0, .int .i64 0]] Try.underlying36 Try.sizeOf43 Try.zeroValue43 rfl (pc_cons rfl pc_nil) rfl rfl (Nat.le_of_ble_eq_true rfl) rfl (all_cons rfl (all_nil)) rfl hS hK (by decide) rfl fun a w b_43 hS hK => ?_
      refine parK_nil (hS.pk2.pk2.trunc 2) ?_
      refine spw (k := 6) rfl rfl (hS.pk2.pk2.trunc 2) ?_
      obtain ⟨y_46, h_47, H⟩ := bind_some H
      have hS := hS.row_lit (size := 11) (m := 1) rfl (by decide)
      have hq_45 : Reps ty_api_Value R_21 [.int .i64 1, .int .i64 a1.Time, .string (⟨#[]⟩ : ByteArray), .int .i64 0, .int .i64 0, .int .i64 0, .int .i64 0, .int .i64 0, .int .i64 0, .int .i64 0, .int .i64 0] [(⟨1, a1.Time, (⟨#[]⟩ : ByteArray), (⟨0, 0, 0, 0, 0, 0, 0, 0⟩ : Arr8)⟩ : api_Value)] := (Reps.cons (show Ty.rep ty_api_Value _ [.int .i64 1, .int .i64 a1.Time, .string (⟨#[]⟩ : ByteArray), .int .i64 0, .int .i64 0, .int .i64 0, .int .i64 0, .int .i64 0, .int .i64 0, .int .i64 0, .int .i64 0] (⟨1, a1.Time, (⟨#[]⟩ : ByteArray), (⟨0, 0, 0, 0, 0, 0, 0, 0⟩ : Arr8)⟩ : api_Value) from rfl) (Reps.nil _ _))
      refine sl_append_A elT36 (by decide) rfl (fun _ _ _ _ h => h) (hS.ra hRA nil_not) hq_45 rfl h1_0 h_47 hS hK (by decide) rfl rfl rfl fun a w v_48 cs_49 hq_50 hS hK => ?_
      refine parK_nil (hS.pk2.pk2.trunc 2) ?_
      refine thenL_nil ?_
      obtain ⟨y_52, h_53, H⟩ := bind_some H
      refine sl_append_A elT36 (by decide) rfl (fun _ _ _ _ h => h) (hS.ra hRA nil_not) hq_50 rfl h1_1 h_53 hS hK (by decide) rfl rfl rfl fun a w v_54 cs_55 hq_56 hS hK => ?_
      refine sl hK (by decide) rfl rfl (r_assign hK rfl) fun a hK => ?_
      refine wpList_nil (NoP_nil ?_)
      refine wp_seq ?_
      refine wp_region_lit ?_
      refine sl hK (by decide) rfl rfl (r_move hK rfl) fun a hK => ?_
      refine sl hK (by decide) rfl rfl (r_move hK rfl) fun a hK => ?_
      rcases or_b y_2 with hb_58 | hb_58
      · rw [ifb_t hb_58] at H
        refine sl hK (by decide) (wtt hb_58) rfl (r_move hK rfl) fun a hK => ?_
        refine sl hK (by decide) rfl rfl (r_pick_t hb_58 hK rfl rfl) fun a hK => ?_
        refine sl hK (by decide) rfl rfl (r_move hK rfl) fun a hK => ?_
        rcases or_b y_19.2 with hb_59 | hb_59
        · rw [ifb_t hb_59] at H
          refine sl hK (by decide) (wtt hb_59) rfl (r_loadA (cs := [.string y_19.1.Name, v_23, v_25]) Try.isAgg26 Try.sizeOf26 rfl hK rfl (hS.cells_of (m := 3) (.tail _ (.head _)) rfl)) fun a hK => ?_
          obtain ⟨y_60, h_61, H⟩ := bind_some H
          refine sl_call Try.call13 hK (by decide) (wtt hb_59) rfl rfl (schema_Cols.calls y_19.1 hS.sub hs_24 hs_26 h_61) fun a v_ w hv_ hK => ?_
          obtain ⟨R_62, v_65, cs_66, hv_, hr_, hl_63, hq_67⟩ := hv_
          have hv_ := hv_.symm
          subst hv_
          obtain ⟨hS, hl_63⟩ := hS.sp0.back hr_ hl_63
          have hS := hS.un1
          have hRL := hRL.trans hl_63
          refine sl hK (by decide) (wtt hb_59) rfl (r_move hK rfl) fun a hK => ?_
          have ho_68 := hS.row_one (.tail _ (.head _))
          refine sl_buildSliceF (zc := [.slice none 0 0]) (ps := [(0, v_54)]) (c := [v_54]) [[v_54]] Try.underlying45 Try.sizeOf36 Try.zeroValue36 rfl (pc_cons (cells1 ho_68) pc_nil) rfl rfl (Nat.le_of_ble_eq_true rfl) rfl (all_cons rfl (all_nil)) rfl hS hK (by decide) (wtt hb_59) fun a w b_69 hS hK => ?_
          have ho_70 := hS.row_one (.tail _ (.head _))
          refine sl hK (by decide) (wtt hb_59) rfl (r_buildC (ps := [(0, v_65), (1, .slice (some ⟨b_69, 0, none⟩) 1 1)]) (c := [v_65, .slice (some ⟨b_69, 0, none⟩) 1 1]) Try.underlying47 Try.zeroValue47 places47 hK rfl (pc_cons (cells1 ho_70) (pc_cons rfl pc_nil)) rfl rfl) fun a hK => ?_
          have hS := hS.pk2
          obtain ⟨R_71, hS, hl_73, hs_72⟩ := hS.fz_row (hq_56.mono hl_63.le) rfl rfl
          have hRL := hRL.trans hl_73
          obtain ⟨y_74, h_75, H⟩ := bind_some H
          refine sl_callV Try.call21 hS hK (by decide) (wtt hb_59) rfl rfl (ref02_Check.calls (⟨y_60, [y_52]⟩ : api_Table) (lentOf_sub [] _) (hS.lend_row0 (.tail _ (.head _)) (hq_67.mono hl_73.le) rfl rfl) (hS.lend_lit0 (ty := (tySl ty_api_Value)) (xs := [y_52]) (.head _) (Reps.cons (show Ty.rep (tySl ty_api_Value) _ [v_54] y_52 from ⟨_, rfl, hs_72⟩) (Reps.nil _ _)) rfl) h_75) fun a w hS hK => ?_
          refine sl hK (by decide) (wtt hb_59) rfl (r_ibin hK rfl rfl rfl) fun a hK => ?_
          refine sl hK (by decide) rfl rfl (r_pick_t hb_59 hK rfl rfl) fun a hK => ?_
          refine sl hK (by decide) rfl rfl (r_assign hK rfl) fun a hK => ?_
          refine wpList_nil ?_
          have hr_ := Option.some.inj H
          refine wp_ret ?_
          repeat (first | refine ret_then ?_ | refine ret_block ?_ | refine ret_scope ?_)
          exact ret_1 Try.results5 hK (rv_tmp hK rfl) ⟨congrArg (fun b => Ending.returned (Value.bool b)) hr_, hS.bel⟩
        · rw [ifb_f hb_59] at H
          refine sl_skip hK (by decide) (wtf hb_59) rfl fun a hK => ?_
          refine sl_skip hK (by decide) (wtf hb_59) rfl fun a hK => ?_
          refine sl_skip hK (by decide) (wtf hb_59) rfl fun a hK => ?_
          refine sl_skip hK (by decide) (wtf hb_59) rfl fun a hK => ?_
          refine sl_skip hK (by decide) (wtf hb_59) rfl fun a hK => ?_
          refine sl_skip hK (by decide) (wtf hb_59) rfl fun a hK => ?_
          refine sl_skip hK (by decide) (wtf hb_59) rfl fun a hK => ?_
          refine sl hK (by decide) rfl rfl (r_pick_f hb_59 hK rfl rfl) fun a hK => ?_
          refine sl hK (by decide) rfl rfl (r_assign hK rfl) fun a hK => ?_
          refine wpList_nil ?_
          exact absurd (Option.some.inj H) (by decide)
      · rw [ifb_f hb_58] at H
        refine sl_skip hK (by decide) (wtf hb_58) rfl fun a hK => ?_
        refine sl hK (by decide) rfl rfl (r_pick_f hb_58 hK rfl rfl) fun a hK => ?_
        refine sl hK (by decide) rfl rfl (r_move hK rfl) fun a hK => ?_
        refine sl_skip hK (by decide) rfl rfl fun a hK => ?_
        refine sl_skip hK (by decide) rfl rfl fun a hK => ?_
        refine sl_skip hK (by decide) rfl rfl fun a hK => ?_
        refine sl_skip hK (by decide) rfl rfl fun a hK => ?_
        refine sl_skip hK (by decide) rfl rfl fun a hK => ?_
        refine sl_skip hK (by decide) rfl rfl fun a hK => ?_
        refine sl_skip hK (by decide) rfl rfl fun a hK => ?_
        refine sl hK (by decide) rfl rfl (r_pick hK rfl rfl rfl) fun a hK => ?_
        refine sl hK (by decide) rfl rfl (r_assign hK rfl) fun a hK => ?_
        refine wpList_nil ?_
        exact absurd (Option.some.inj H) (by decide)

end Go.Proofs.Ytiegghohcghmkaa.M
