/- The walks of this seat beside the plain programs, part 1. No condition. -/
import Derived.Test.YtcbpphgndncebaaXMendTellsEn
import Derived.Test.YtcbpphgndncebaaXMendTellsWk0
namespace Go.Proofs
set_option linter.all false
open Go Go.Cat
set_option maxRecDepth 100000

theorem w_law28_MendTells {p_x : List api_Job} {p_y : List api_Job} {p_budget : Int} {r : Bool} (h : law28_MendTells p_x p_y p_budget = some r) : Pure Try.prog 3 [(.s (List.map c_api_Job p_x)), (.s (List.map c_api_Job p_y)), (vi p_budget)] (vb r) := by
  refine pure_of_ok (n := 79) (c := (Try.f3.body.getD .skip)) Try.tok Try.func3 (by kernel_rfl) rfl rfl (Nat.le_of_ble_eq_true rfl) ?_
  unfold law28_MendTells at h
  refine Ok.wk (Wk.tab (L := [(0, (.s (List.map c_api_Job p_x))), (1, (.s (List.map c_api_Job p_y))), (2, (vi p_budget))]) (H' := []) ⟨Le.refl _, Le.refl _, Le.refl _, True.intro⟩ True.intro rfl) ?_
  refine Ok.seq ?_
  refine Ok.region Try.tok ?_
  refine Ok.wk (Wk.tab (L := [(0, (.s (List.map c_api_Job p_x))), (1, (.s (List.map c_api_Job p_y))), (2, (vi p_budget))]) (H' := []) ⟨Le.refl _, Le.refl _, Le.refl _, True.intro⟩ True.intro rfl) ?_
  refine Ok.seq ?_
  refine Ok.region Try.tok ?_
  obtain ⟨x1, hx1, h⟩ := bindS h
  refine CallOk.call (w_law28_head hx1) (LeL.refl _) ?_
  refine Ok.wk (Wk.tab (L := [(0, (.s (List.map c_api_Job p_x))), (1, (.s (List.map c_api_Job p_y))), (2, (vi p_budget)), (7, (vb x1))]) (H' := []) ⟨Le.refl _, Le.refl _, Le.refl _, Le.refl _, True.intro⟩ True.intro rfl) ?_
  refine Ok.seq ?_
  refine Ok.region Try.tok ?_
  obtain ⟨x2, hx2, h⟩ := bindS h
  refine CallOk.call (w_ref28_Few hx2) (LeL.refl _) ?_
  refine Ok.wk (Wk.tab (L := [(1, (.s (List.map c_api_Job p_y))), (2, (vi p_budget)), (7, (vb x1)), (8, (.s (List.map c_api_Job x2)))]) (H' := []) ⟨Le.refl _, Le.refl _, Le.refl _, Le.refl _, True.intro⟩ True.intro rfl) ?_
  refine Ok.seq ?_
  refine Ok.region Try.tok ?_
  obtain ⟨x3, hx3, h⟩ := bindS h
  refine CallOk.call (w_ref28_Few hx3) (LeL.refl _) ?_
  refine Ok.wk (Wk.tab (L := [(2, (vi p_budget)), (7, (vb x1)), (8, (.s (List.map c_api_Job x2))), (9, (.s (List.map c_api_Job x3)))]) (H' := []) ⟨Le.refl _, Le.refl _, Le.refl _, Le.refl _, True.intro⟩ True.intro rfl) ?_
  refine Ok.seq ?_
  refine Ok.region Try.tok ?_
  obtain ⟨x4, hx4, h⟩ := bindS h
  refine CallOk.call (w_ref28_Order hx4) (LeL.refl _) ?_
  refine Ok.wk (Wk.tab (L := [(2, (vi p_budget)), (7, (vb x1)), (8, (.s (List.map c_api_Job x2))), (9, (.s (List.map c_api_Job x3))), (10, (.s (List.map c_api_Job x4)))]) (H' := []) ⟨Le.refl _, Le.refl _, Le.refl _, Le.refl _, Le.refl _, True.intro⟩ True.intro rfl) ?_
  refine Ok.seq ?_
  refine Ok.region Try.tok ?_
  obtain ⟨x5, hx5, h⟩ := bindS h
  refine CallOk.call (w_ref28_Order hx5) (LeL.refl _) ?_
  refine Ok.wk (Wk.tab (L := [(2, (vi p_budget)), (7, (vb x1)), (8, (.s (List.map c_api_Job x2))), (10, (.s (List.map c_api_Job x4))), (11, (.s (List.map c_api_Job x5)))]) (H' := []) ⟨Le.refl _, Le.refl _, Le.refl _, Le.refl _, Le.refl _, True.intro⟩ True.intro rfl) ?_
  refine Ok.seq ?_
  refine Ok.region Try.tok ?_
  obtain ⟨x6, hx6, h⟩ := bindS h
  refine CallOk.call (w_mend_Step hx6) (LeL.refl _) ?_
  refine Ok.wk (Wk.tab (L := [(2, (vi p_budget)), (7, (vb x1)), (8, (.s (List.map c_api_Job x2))), (10, (.s (List.map c_api_Job x4))), (11, (.s (List.map c_api_Job x5))), (12, (.s (List.map c_api_Job x6.1))), (13, (.s (List.map c_api_Job x6.2)))]) (H' := []) ⟨Le.refl _, Le.refl _, Le.refl _, Le.refl _, Le.refl _, Le.refl _, Le.refl _, True.intro⟩ True.intro rfl) ?_
  refine Ok.seq ?_
  refine Ok.region Try.tok ?_
  obtain ⟨x7, hx7, h⟩ := bindS h
  refine CallOk.call (w_ref28_Step hx7) (LeL.refl _) ?_
  refine Ok.wk (Wk.tab (L := [(2, (vi p_budget)), (7, (vb x1)), (8, (.s (List.map c_api_Job x2))), (10, (.s (List.map c_api_Job x4))), (11, (.s (List.map c_api_Job x5))), (12, (.s (List.map c_api_Job x6.1))), (13, (.s (List.map c_api_Job x6.2))), (14, (.s (List.map c_api_Job x7.1))), (15, (.s (List.map c_api_Job x7.2)))]) (H' := []) ⟨Le.refl _, Le.refl _, Le.refl _, Le.refl _, Le.refl _, Le.refl _, Le.refl _, Le.refl _, Le.refl _, True.intro⟩ True.intro rfl) ?_
  obtain ⟨v1, hv1, h⟩ := bindS h
  refine Ok.seqw ⟨Cat.tab [(6, (vb v1))], []⟩ ?_ ?_
  · refine Ok.region Try.tok ?_
    obtain ⟨c1, hg1, hv1⟩ := bindS hv1
    refine Br.ite hg1 (fun hb hg1 => ?_) fun hb hg1 => ?_
    · obtain ⟨x8, hx8, hg1⟩ := bindS hg1
      refine CallOk.norm (L := [(2, (vi p_budget)), (8, (.s (List.map c_api_Job x2))), (10, (.s (List.map c_api_Job x4))), (11, (.s (List.map c_api_Job x5))), (12, (.s (List.map c_api_Job x6.1))), (13, (.s (List.map c_api_Job x6.2))), (14, (.s (List.map c_api_Job x7.1))), (15, (.s (List.map c_api_Job x7.2))), (38, .v (.bool true)), (39, (.s (List.map c_api_Job x2)))]) (H' := []) (LeL.refl _) ⟨Le.refl _, Le.refl _, Le.refl _, Le.refl _, Le.refl _, Le.refl _, Le.refl _, Le.refl _, Le.refl _, Le.refl _, True.intro⟩ True.intro rfl (CallOk.call (w_mend_Right hx8) (LeL.refl _) ?_)
      obtain ⟨x9, hx9, hg1⟩ := bindS hg1
      refine CallOk.norm (L := [(2, (vi p_budget)), (8, (.s (List.map c_api_Job x2))), (10, (.s (List.map c_api_Job x4))), (11, (.s (List.map c_api_Job x5))), (12, (.s (List.map c_api_Job x6.1))), (13, (.s (List.map c_api_Job x6.2))), (14, (.s (List.map c_api_Job x7.1))), (15, (.s (List.map c_api_Job x7.2))), (38, .v (.bool true)), (40, (vb x8)), (41, (.s (List.map c_api_Job x2)))]) (H' := []) (LeL.refl _) ⟨Le.refl _, Le.refl _, Le.refl _, Le.refl _, Le.refl _, Le.refl _, Le.refl _, Le.refl _, Le.refl _, Le.refl _, Le.refl _, True.intro⟩ True.intro rfl (CallOk.call (w_ref28_Right hx9) (LeL.refl _) ?_)
      cases hg1
      obtain ⟨c2, hg2, hv1⟩ := bindS hv1
      refine Br.ite hg2 (fun hb hg2 => ?_) fun hb hg2 => ?_
      · obtain ⟨x10, hx10, hg2⟩ := bindS hg2
        refine CallOk.norm (L := [(2, (vi p_budget)), (10, (.s (List.map c_api_Job x4))), (11, (.s (List.map c_api_Job x5))), (12, (.s (List.map c_api_Job x6.1))), (13, (.s (List.map c_api_Job x6.2))), (14, (.s (List.map c_api_Job x7.1))), (15, (.s (List.map c_api_Job x7.2))), (45, .v (.bool true)), (46, (.s (List.map c_api_Job x2)))]) (H' := []) (LeL.refl _) ⟨Le.refl _, Le.refl _, Le.refl _, Le.refl _, Le.refl _, Le.refl _, Le.refl _, Le.refl _, Le.refl _, True.intro⟩ True.intro rfl (CallOk.call (w_mend_Order hx10) (LeL.refl _) ?_)
        obtain ⟨x11, hx11, hg2⟩ := bindS hg2
        refine CallOk.norm (L := [(2, (vi p_budget)), (10, (.s (List.map c_api_Job x4))), (11, (.s (List.map c_api_Job x5))), (12, (.s (List.map c_api_Job x6.1))), (13, (.s (List.map c_api_Job x6.2))), (14, (.s (List.map c_api_Job x7.1))), (15, (.s (List.map c_api_Job x7.2))), (45, .v (.bool true)), (47, (.s (List.map c_api_Job x10))), (48, (.s (List.map c_api_Job x4)))]) (H' := []) (LeL.refl _) ⟨Le.refl _, Le.refl _, Le.refl _, Le.refl _, Le.refl _, Le.refl _, Le.refl _, Le.refl _, Le.refl _, Le.refl _, True.intro⟩ True.intro rfl (CallOk.call (w_ref27_SameJobs hx11) (LeL.refl _) ?_)
        cases hg2
        obtain ⟨c3, hg3, hv1⟩ := bindS hv1
        refine Br.ite hg3 (fun hb hg3 => ?_) fun hb hg3 => ?_
        · obtain ⟨x12, hx12, hg3⟩ := bindS hg3
          refine CallOk.norm (L := [(2, (vi p_budget)), (10, (.s (List.map c_api_Job x4))), (11, (.s (List.map c_api_Job x5))), (12, (.s (List.map c_api_Job x6.1))), (13, (.s (List.map c_api_Job x6.2))), (14, (.s (List.map c_api_Job x7.1))), (15, (.s (List.map c_api_Job x7.2))), (51, .v (.bool true)), (52, (.s (List.map c_api_Job x4))), (53, (.s (List.map c_api_Job x5)))]) (H' := []) (LeL.refl _) ⟨Le.refl _, Le.refl _, Le.refl _, Le.refl _, Le.refl _, Le.refl _, Le.refl _, Le.refl _, Le.refl _, Le.refl _, True.intro⟩ True.intro rfl (CallOk.call (w_mend_Renew hx12) (LeL.refl _) ?_)
          obtain ⟨x13, hx13, hg3⟩ := bindS hg3
          refine CallOk.norm (L := [(2, (vi p_budget)), (10, (.s (List.map c_api_Job x4))), (12, (.s (List.map c_api_Job x6.1))), (13, (.s (List.map c_api_Job x6.2))), (14, (.s (List.map c_api_Job x7.1))), (15, (.s (List.map c_api_Job x7.2))), (51, .v (.bool true)), (54, (.s (List.map c_api_Job x12))), (55, (.s (List.map c_api_Job x4))), (56, (.s (List.map c_api_Job x5)))]) (H' := []) (LeL.refl _) ⟨Le.refl _, Le.refl _, Le.refl _, Le.refl _, Le.refl _, Le.refl _, Le.refl _, Le.refl _, Le.refl _, Le.refl _, True.intro⟩ True.intro rfl (CallOk.call (w_ref28_Renew hx13) (LeL.refl _) ?_)
          obtain ⟨x14, hx14, hg3⟩ := bindS hg3
          refine CallOk.norm (L := [(2, (vi p_budget)), (10, (.s (List.map c_api_Job x4))), (12, (.s (List.map c_api_Job x6.1))), (13, (.s (List.map c_api_Job x6.2))), (14, (.s (List.map c_api_Job x7.1))), (15, (.s (List.map c_api_Job x7.2))), (51, .v (.bool true)), (54, (.s (List.map c_api_Job x12))), (57, (.s (List.map c_api_Job x13)))]) (H' := []) (LeL.refl _) ⟨Le.refl _, Le.refl _, Le.refl _, Le.refl _, Le.refl _, Le.refl _, Le.refl _, Le.refl _, Le.refl _, True.intro⟩ True.intro rfl (CallOk.call (w_ref27_SameJobs hx14) (LeL.refl _) ?_)
          cases hg3
          obtain ⟨c4, hg4, hv1⟩ := bindS hv1
          refine Br.ite hg4 (fun hb hg4 => ?_) fun hb hg4 => ?_
          · obtain ⟨x15, hx15, hg4⟩ := bindS hg4
            refine CallOk.norm (L := [(2, (vi p_budget)), (10, (.s (List.map c_api_Job x4))), (13, (.s (List.map c_api_Job x6.2))), (15, (.s (List.map c_api_Job x7.2))), (60, .v (.bool true)), (61, (.s (List.map c_api_Job x6.1))), (62, (.s (List.map c_api_Job x7.1)))]) (H' := []) (LeL.refl _) ⟨Le.refl _, Le.refl _, Le.refl _, Le.refl _, Le.refl _, Le.refl _, Le.refl _, True.intro⟩ True.intro rfl (CallOk.call (w_ref27_SameJobs hx15) (LeL.refl _) ?_)
            cases hg4
            obtain ⟨c5, hg5, hv1⟩ := bindS hv1
            refine Br.ite hg5 (fun hb hg5 => ?_) fun hb hg5 => ?_
            · obtain ⟨x16, hx16, hg5⟩ := bindS hg5
              refine CallOk.norm (L := [(2, (vi p_budget)), (10, (.s (List.map c_api_Job x4))), (65, .v (.bool true)), (66, (.s (List.map c_api_Job x6.2))), (67, (.s (List.map c_api_Job x7.2)))]) (H' := []) (LeL.refl _) ⟨Le.refl _, Le.refl _, Le.refl _, Le.refl _, Le.refl _, True.intro⟩ True.intro rfl (CallOk.call (w_ref27_SameJobs hx16) (LeL.refl _) ?_)
              cases hg5
              obtain ⟨c6, hg6, hv1⟩ := bindS hv1
              refine Br.ite hg6 (fun hb hg6 => ?_) fun hb hg6 => ?_
              · obtain ⟨x17, hx17, hg6⟩ := bindS hg6
                refine CallOk.norm (L := [(2, (vi p_budget)), (10, (.s (List.map c_api_Job x4))), (70, .v (.bool true)), (71, (.s (List.map c_api_Job x4))), (72, (vi p_budget))]) (H' := []) (LeL.refl _) ⟨Le.refl _, Le.refl _, Le.refl _, Le.refl _, Le.refl _, True.intro⟩ True.intro rfl (CallOk.call (w_mend_Steps hx17) (LeL.refl _) ?_)
                obtain ⟨x18, hx18, hg6⟩ := bindS hg6
                refine CallOk.norm (L := [(70, .v (.bool true)), (73, (vi x17)), (74, (.s (List.map c_api_Job x4))), (75, (vi p_budget))]) (H' := []) (LeL.refl _) ⟨Le.refl _, Le.refl _, Le.refl _, Le.refl _, True.intro⟩ True.intro rfl (CallOk.call (w_ref28_Steps hx18) (LeL.refl _) ?_)
                cases hg6
                cases hv1
                exact Wk.tab ⟨Le.refl _, True.intro⟩ True.intro rfl
              · cases hg6
                cases hv1
                exact Wk.tab ⟨Le.refl _, True.intro⟩ True.intro rfl
            · cases hg5
              obtain ⟨c6, hg7, hv1⟩ := bindS hv1
              replace hg7 := iteF hg7
              cases hg7
              cases hv1
              exact Wk.tab ⟨Le.refl _, True.intro⟩ True.intro rfl
          · cases hg4
            obtain ⟨c5, hg8, hv1⟩ := bindS hv1
            replace hg8 := iteF hg8
            cases hg8
            obtain ⟨c6, hg9, hv1⟩ := bindS hv1
            replace hg9 := iteF hg9
            cases hg9
            cases hv1
            exact Wk.tab ⟨Le.refl _, True.intro⟩ True.intro rfl
        · cases hg3
          obtain ⟨c4, hg10, hv1⟩ := bindS hv1
          replace hg10 := iteF hg10
          cases hg10
          obtain ⟨c5, hg11, hv1⟩ := bindS hv1
          replace hg11 := iteF hg11
          cases hg11
          obtain ⟨c6, hg12, hv1⟩ := bindS hv1
          replace hg12 := iteF hg12
          cases hg12
          cases hv1
          exact Wk.tab ⟨Le.refl _, True.intro⟩ True.intro rfl
      · cases hg2
        obtain ⟨c3, hg13, hv1⟩ := bindS hv1
        replace hg13 := iteF hg13
        cases hg13
        obtain ⟨c4, hg14, hv1⟩ := bindS hv1
        replace hg14 := iteF hg14
        cases hg14
        obtain ⟨c5, hg15, hv1⟩ := bindS hv1
        replace hg15 := iteF hg15
        cases hg15
        obtain ⟨c6, hg16, hv1⟩ := bindS hv1
        replace hg16 := iteF hg16
        cases hg16
        cases hv1
        exact Wk.tab ⟨Le.refl _, True.intro⟩ True.intro rfl
    · cases hg1
      obtain ⟨c2, hg17, hv1⟩ := bindS hv1
      replace hg17 := iteF hg17
      cases hg17
      obtain ⟨c3, hg18, hv1⟩ := bindS hv1
      replace hg18 := iteF hg18
      cases hg18
      obtain ⟨c4, hg19, hv1⟩ := bindS hv1
      replace hg19 := iteF hg19
      cases hg19
      obtain ⟨c5, hg20, hv1⟩ := bindS hv1
      replace hg20 := iteF hg20
      cases hg20
      obtain ⟨c6, hg21, hv1⟩ := bindS hv1
      replace hg21 := iteF hg21
      cases hg21
      cases hv1
      exact Wk.tab ⟨Le.refl _, True.intro⟩ True.intro rfl
  refine Ok.ret ?_
  cases h
  exact Fz.v

end Go.Proofs
