/- The walks of this seat beside the plain programs, part 0. No condition. -/
import Derived.Test.YtcbpphgndncebaaXMendRenewsEn
namespace Go.Proofs
set_option linter.all false
open Go Go.Cat
set_option maxRecDepth 100000

theorem w_law28_job {p_have : Int} {p_id : Int} {p_to : Int} {p_left : Int} {r : api_Job} (h : law28_job p_have p_id p_to p_left = some r) : Pure Try.prog 23 [(vi p_have), (vi p_id), (vi p_to), (vi p_left)] (.a [(vi r.Id), (vi r.Ver), (vi r.From), (vi r.To), (vi r.Have), (vi r.Left)]) := by
  refine pure_of_ok (n := 14) (c := (Try.f23.body.getD .skip)) Try.tok Try.func23 (by kernel_rfl) rfl rfl (Nat.le_of_ble_eq_true rfl) ?_
  unfold law28_job at h
  refine Ok.wk (Wk.tab (L := [(0, (vi p_have)), (1, (vi p_id)), (2, (vi p_to)), (3, (vi p_left))]) (H' := []) ⟨Le.refl _, Le.refl _, Le.refl _, Le.refl _, True.intro⟩ True.intro rfl) ?_
  refine Ok.seq ?_
  refine Ok.region Try.tok ?_
  refine Ok.wk (Wk.tab (L := [(0, (vi p_have)), (1, (vi p_id)), (2, (vi p_to)), (3, (vi p_left)), (8, (.b 8 0))]) (H' := [(8, .box [(vi (0)), (vi (0)), (vi (0)), (vi (0)), (vi (0)), (vi (0))])]) ⟨Le.refl _, Le.refl _, Le.refl _, Le.refl _, Le.refl _, True.intro⟩ ⟨⟨_, rfl, .refl _⟩, True.intro⟩ rfl) ?_
  refine Ok.seq ?_
  refine Ok.region Try.tok ?_
  refine ⟨_, rfl, ?_⟩
  refine Ok.wk (Wk.tab (L := [(8, (.b 8 0))]) (H' := [(8, .box [(vi p_id), (vi (0)), (vi (9)), (vi p_to), (vi p_have), (vi p_left)])]) ⟨Le.refl _, True.intro⟩ ⟨⟨_, rfl, .refl _⟩, True.intro⟩ rfl) ?_
  refine Ok.ret ?_
  cases h
  exact ⟨_, rfl, (Fz.imm rfl)⟩

theorem w_mend_within {p_n : Int} {p_from : Int} {p_to : Int} {r : Bool} (h : mend_within p_n p_from p_to = some r) : Pure Try.prog 35 [(vi p_n), (vi p_from), (vi p_to)] (vb r) := by
  refine pure_of_ok (n := 15) (c := (Try.f35.body.getD .skip)) Try.tok Try.func35 (by kernel_rfl) rfl rfl (Nat.le_of_ble_eq_true rfl) ?_
  unfold mend_within at h
  refine Ok.wk (Wk.tab (L := [(0, (vi p_n)), (1, (vi p_from)), (2, (vi p_to))]) (H' := []) ⟨Le.refl _, Le.refl _, Le.refl _, True.intro⟩ True.intro rfl) ?_
  refine Ok.seq ?_
  refine Ok.region Try.tok ?_
  refine Ok.wk (Wk.tab (L := [(0, (vi p_n)), (1, (vi p_from)), (2, (vi p_to))]) (H' := []) ⟨Le.refl _, Le.refl _, Le.refl _, True.intro⟩ True.intro rfl) ?_
  obtain ⟨v1, hv1, h⟩ := bindS h
  refine Ok.seqw ⟨Cat.tab [(6, (vb v1))], []⟩ ?_ ?_
  · refine Ok.region Try.tok ?_
    obtain ⟨c1, hg1, hv1⟩ := bindS hv1
    refine Br.ite hg1 (fun hb hg1 => ?_) fun hb hg1 => ?_
    · cases hg1
      cases hv1
      exact Wk.tab ⟨Le.refl _, True.intro⟩ True.intro rfl
    · cases hg1
      cases hv1
      exact Wk.tab ⟨Le.refl _, True.intro⟩ True.intro rfl
  refine Ok.ret ?_
  cases h
  exact Fz.v

theorem w_mend_may {p_j : api_Job} {r : Bool} (h : mend_may p_j = some r) : Pure Try.prog 28 [(.a [(vi p_j.Id), (vi p_j.Ver), (vi p_j.From), (vi p_j.To), (vi p_j.Have), (vi p_j.Left)])] (vb r) := by
  refine pure_of_ok (n := 38) (c := (Try.f28.body.getD .skip)) Try.tok Try.func28 (by kernel_rfl) rfl rfl (Nat.le_of_ble_eq_true rfl) ?_
  unfold mend_may at h
  refine Ok.wk (Wk.tab (L := [(0, (.a [(vi p_j.Id), (vi p_j.Ver), (vi p_j.From), (vi p_j.To), (vi p_j.Have), (vi p_j.Left)]))]) (H' := []) ⟨Le.refl _, True.intro⟩ True.intro rfl) ?_
  refine Ok.seq ?_
  refine Ok.region Try.tok ?_
  refine Ok.wk (Wk.tab (L := [(1, (.b 1 0))]) (H' := [(1, .box [(vi p_j.Id), (vi p_j.Ver), (vi p_j.From), (vi p_j.To), (vi p_j.Have), (vi p_j.Left)])]) ⟨Le.refl _, True.intro⟩ ⟨⟨_, rfl, .refl _⟩, True.intro⟩ rfl) ?_
  obtain ⟨v1, hv1, h⟩ := bindS h
  refine Ok.seqw ⟨Cat.tab [(2, (vb v1))], []⟩ ?_ ?_
  · refine Ok.region Try.tok ?_
    obtain ⟨x1, hx1, hv1⟩ := bindS hv1
    refine ⟨_, rfl, ?_⟩
    refine CallOk.norm (L := [(1, (.b 1 0)), (4, (vi p_j.Id))]) (H' := [(1, .box [(vi p_j.Id), (vi p_j.Ver), (vi p_j.From), (vi p_j.To), (vi p_j.Have), (vi p_j.Left)])]) (LeL.refl _) ⟨Le.refl _, Le.refl _, True.intro⟩ ⟨⟨_, rfl, .refl _⟩, True.intro⟩ rfl (CallOk.call (w_mend_within hx1) (LeL.refl _) ?_)
    obtain ⟨c1, hg1, hv1⟩ := bindS hv1
    refine Br.ite hg1 (fun hb hg1 => ?_) fun hb hg1 => ?_
    · obtain ⟨x2, hx2, hg1⟩ := bindS hg1
      refine ⟨_, rfl, ?_⟩
      refine CallOk.norm (L := [(1, (.b 1 0)), (6, .v (.bool true)), (8, (vi p_j.Ver))]) (H' := [(1, .box [(vi p_j.Id), (vi p_j.Ver), (vi p_j.From), (vi p_j.To), (vi p_j.Have), (vi p_j.Left)])]) (LeL.refl _) ⟨Le.refl _, Le.refl _, Le.refl _, True.intro⟩ ⟨⟨_, rfl, .refl _⟩, True.intro⟩ rfl (CallOk.call (w_mend_within hx2) (LeL.refl _) ?_)
      cases hg1
      obtain ⟨c2, hg2, hv1⟩ := bindS hv1
      refine Br.ite hg2 (fun hb hg2 => ?_) fun hb hg2 => ?_
      · obtain ⟨x3, hx3, hg2⟩ := bindS hg2
        refine ⟨_, rfl, ?_⟩
        refine CallOk.norm (L := [(1, (.b 1 0)), (11, .v (.bool true)), (13, (vi p_j.From))]) (H' := [(1, .box [(vi p_j.Id), (vi p_j.Ver), (vi p_j.From), (vi p_j.To), (vi p_j.Have), (vi p_j.Left)])]) (LeL.refl _) ⟨Le.refl _, Le.refl _, Le.refl _, True.intro⟩ ⟨⟨_, rfl, .refl _⟩, True.intro⟩ rfl (CallOk.call (w_mend_within hx3) (LeL.refl _) ?_)
        cases hg2
        obtain ⟨c3, hg3, hv1⟩ := bindS hv1
        refine Br.ite hg3 (fun hb hg3 => ?_) fun hb hg3 => ?_
        · obtain ⟨x4, hx4, hg3⟩ := bindS hg3
          refine ⟨_, rfl, ?_⟩
          refine CallOk.norm (L := [(1, (.b 1 0)), (16, .v (.bool true)), (18, (vi p_j.To))]) (H' := [(1, .box [(vi p_j.Id), (vi p_j.Ver), (vi p_j.From), (vi p_j.To), (vi p_j.Have), (vi p_j.Left)])]) (LeL.refl _) ⟨Le.refl _, Le.refl _, Le.refl _, True.intro⟩ ⟨⟨_, rfl, .refl _⟩, True.intro⟩ rfl (CallOk.call (w_mend_within hx4) (LeL.refl _) ?_)
          cases hg3
          obtain ⟨c4, hg4, hv1⟩ := bindS hv1
          refine Br.ite hg4 (fun hb hg4 => ?_) fun hb hg4 => ?_
          · refine ⟨_, rfl, ⟨_, rfl, ?_⟩⟩
            cases hg4
            obtain ⟨c5, hg5, hv1⟩ := bindS hv1
            refine Br.ite hg5 (fun hb hg5 => ?_) fun hb hg5 => ?_
            · obtain ⟨x5, hx5, hg5⟩ := bindS hg5
              refine ⟨_, rfl, ?_⟩
              refine CallOk.norm (L := [(1, (.b 1 0)), (28, .v (.bool true)), (30, (vi p_j.Have))]) (H' := [(1, .box [(vi p_j.Id), (vi p_j.Ver), (vi p_j.From), (vi p_j.To), (vi p_j.Have), (vi p_j.Left)])]) (LeL.refl _) ⟨Le.refl _, Le.refl _, Le.refl _, True.intro⟩ ⟨⟨_, rfl, .refl _⟩, True.intro⟩ rfl (CallOk.call (w_mend_within hx5) (LeL.refl _) ?_)
              cases hg5
              obtain ⟨c6, hg6, hv1⟩ := bindS hv1
              refine Br.ite hg6 (fun hb hg6 => ?_) fun hb hg6 => ?_
              · obtain ⟨x6, hx6, hg6⟩ := bindS hg6
                refine ⟨_, rfl, ?_⟩
                refine CallOk.norm (L := [(33, .v (.bool true)), (35, (vi p_j.Left))]) (H' := []) (LeL.refl _) ⟨Le.refl _, Le.refl _, True.intro⟩ True.intro rfl (CallOk.call (w_mend_within hx6) (LeL.refl _) ?_)
                cases hg6
                cases hv1
                exact Wk.tab ⟨Le.refl _, True.intro⟩ True.intro rfl
              · cases hg6
                cases hv1
                exact Wk.tab ⟨Le.refl _, True.intro⟩ True.intro rfl
            · cases hg5
              obtain ⟨c6, hg7, hv1⟩ := bindS hv1
              replace hg7 := iteF hg7
              cases hg7
              cases hv1
              exact Wk.tab ⟨Le.refl _, True.intro⟩ True.intro rfl
          · cases hg4
            obtain ⟨c5, hg8, hv1⟩ := bindS hv1
            replace hg8 := iteF hg8
            cases hg8
            obtain ⟨c6, hg9, hv1⟩ := bindS hv1
            replace hg9 := iteF hg9
            cases hg9
            cases hv1
            exact Wk.tab ⟨Le.refl _, True.intro⟩ True.intro rfl
        · cases hg3
          obtain ⟨c4, hg10, hv1⟩ := bindS hv1
          replace hg10 := iteF hg10
          cases hg10
          obtain ⟨c5, hg11, hv1⟩ := bindS hv1
          replace hg11 := iteF hg11
          cases hg11
          obtain ⟨c6, hg12, hv1⟩ := bindS hv1
          replace hg12 := iteF hg12
          cases hg12
          cases hv1
          exact Wk.tab ⟨Le.refl _, True.intro⟩ True.intro rfl
      · cases hg2
        obtain ⟨c3, hg13, hv1⟩ := bindS hv1
        replace hg13 := iteF hg13
        cases hg13
        obtain ⟨c4, hg14, hv1⟩ := bindS hv1
        replace hg14 := iteF hg14
        cases hg14
        obtain ⟨c5, hg15, hv1⟩ := bindS hv1
        replace hg15 := iteF hg15
        cases hg15
        obtain ⟨c6, hg16, hv1⟩ := bindS hv1
        replace hg16 := iteF hg16
        cases hg16
        cases hv1
        exact Wk.tab ⟨Le.refl _, True.intro⟩ True.intro rfl
    · cases hg1
      obtain ⟨c2, hg17, hv1⟩ := bindS hv1
      replace hg17 := iteF hg17
      cases hg17
      obtain ⟨c3, hg18, hv1⟩ := bindS hv1
      replace hg18 := iteF hg18
      cases hg18
      obtain ⟨c4, hg19, hv1⟩ := bindS hv1
      replace hg19 := iteF hg19
      cases hg19
      obtain ⟨c5, hg20, hv1⟩ := bindS hv1
      replace hg20 := iteF hg20
      cases hg20
      obtain ⟨c6, hg21, hv1⟩ := bindS hv1
      replace hg21 := iteF hg21
      cases hg21
      cases hv1
      exact Wk.tab ⟨Le.refl _, True.intro⟩ True.intro rfl
  refine Ok.ret ?_
  cases h
  exact Fz.v

theorem w_mend_of {p_j : api_Job} {r : mend_spot} (h : mend_of p_j = some r) : Pure Try.prog 30 [(.a [(vi p_j.Id), (vi p_j.Ver), (vi p_j.From), (vi p_j.To), (vi p_j.Have), (vi p_j.Left)])] (.a [(vi r.id_), (vi r.to_)]) := by
  refine pure_of_ok (n := 8) (c := (Try.f30.body.getD .skip)) Try.tok Try.func30 (by kernel_rfl) rfl rfl (Nat.le_of_ble_eq_true rfl) ?_
  unfold mend_of at h
  refine Ok.wk (Wk.tab (L := [(0, (.a [(vi p_j.Id), (vi p_j.Ver), (vi p_j.From), (vi p_j.To), (vi p_j.Have), (vi p_j.Left)]))]) (H' := []) ⟨Le.refl _, True.intro⟩ True.intro rfl) ?_
  refine Ok.seq ?_
  refine Ok.region Try.tok ?_
  refine Ok.wk (Wk.tab (L := [(1, (.b 1 0)), (2, (.b 2 0))]) (H' := [(1, .box [(vi p_j.Id), (vi p_j.Ver), (vi p_j.From), (vi p_j.To), (vi p_j.Have), (vi p_j.Left)]), (2, .box [(vi (0)), (vi (0))])]) ⟨Le.refl _, Le.refl _, True.intro⟩ ⟨⟨_, rfl, .refl _⟩, ⟨_, rfl, .refl _⟩, True.intro⟩ rfl) ?_
  refine Ok.seq ?_
  refine Ok.region Try.tok ?_
  refine ⟨_, rfl, ⟨_, rfl, ⟨_, rfl, ?_⟩⟩⟩
  refine Ok.wk (Wk.tab (L := [(2, (.b 2 0))]) (H' := [(2, .box [(vi p_j.Id), (vi p_j.To)])]) ⟨Le.refl _, True.intro⟩ ⟨⟨_, rfl, .refl _⟩, True.intro⟩ rfl) ?_
  refine Ok.ret ?_
  cases h
  exact ⟨_, rfl, (Fz.imm rfl)⟩

theorem w_mend_spot_is {p_s : mend_spot} {p_j : api_Job} {r : Bool} (h : mend_spot_is p_s p_j = some r) : Pure Try.prog 31 [(.a [(vi p_s.id_), (vi p_s.to_)]), (.a [(vi p_j.Id), (vi p_j.Ver), (vi p_j.From), (vi p_j.To), (vi p_j.Have), (vi p_j.Left)])] (vb r) := by
  refine pure_of_ok (n := 9) (c := (Try.f31.body.getD .skip)) Try.tok Try.func31 (by kernel_rfl) rfl rfl (Nat.le_of_ble_eq_true rfl) ?_
  unfold mend_spot_is at h
  refine Ok.wk (Wk.tab (L := [(0, (.a [(vi p_s.id_), (vi p_s.to_)])), (1, (.a [(vi p_j.Id), (vi p_j.Ver), (vi p_j.From), (vi p_j.To), (vi p_j.Have), (vi p_j.Left)]))]) (H' := []) ⟨Le.refl _, Le.refl _, True.intro⟩ True.intro rfl) ?_
  refine Ok.seq ?_
  refine Ok.region Try.tok ?_
  refine Ok.wk (Wk.tab (L := [(2, (.b 2 0)), (3, (.b 3 0))]) (H' := [(2, .box [(vi p_s.id_), (vi p_s.to_)]), (3, .box [(vi p_j.Id), (vi p_j.Ver), (vi p_j.From), (vi p_j.To), (vi p_j.Have), (vi p_j.Left)])]) ⟨Le.refl _, Le.refl _, True.intro⟩ ⟨⟨_, rfl, .refl _⟩, ⟨_, rfl, .refl _⟩, True.intro⟩ rfl) ?_
  refine Ok.seq ?_
  refine Ok.draw (m := 5) Try.tok Try.mixed (by kernel_rfl) ?_
  obtain ⟨x1, hx1, h⟩ := bindS h
  refine ⟨_, ⟨_, rfl, rfl⟩, ⟨_, ⟨_, .of_pure (w_mend_of hx1) (LeL.refl _), rfl⟩, ⟨_, ⟨_, rfl, rfl⟩, ⟨_, ⟨[.int .i64, .int .i64], by kernel_rfl, rfl⟩, ⟨_, rfl, ?_⟩⟩⟩⟩⟩
  refine Ok.wk (Wk.tab (L := [(4, (vb ((x1.id_ == p_s.id_ && (x1.to_ == p_s.to_ && true)))))]) (H' := []) ⟨Le.refl _, True.intro⟩ True.intro rfl) ?_
  refine Ok.ret ?_
  cases h
  exact Fz.v

theorem w_slices_IndexFunc_api_Job_api_Job__mend_spot_is {p_s : List api_Job} {p_f_f0 : mend_spot} {r : Int} (h : slices_IndexFunc_api_Job_api_Job__mend_spot_is p_s p_f_f0 = some r) : Pure Try.prog 34 [(.s (List.map c_api_Job p_s)), (.c (.func 31) [(.a [(vi p_f_f0.id_), (vi p_f_f0.to_)])] [])] (vi r) := by
  refine pure_of_ok (n := 19) (c := (Try.f34.body.getD .skip)) Try.tok Try.func34 (by kernel_rfl) rfl rfl (Nat.le_of_ble_eq_true rfl) ?_
  unfold slices_IndexFunc_api_Job_api_Job__mend_spot_is at h
  refine Ok.wk (Wk.tab (L := [(0, (.s (List.map c_api_Job p_s))), (1, (.c (.func 31) [(.a [(vi p_f_f0.id_), (vi p_f_f0.to_)])] []))]) (H' := []) ⟨Le.refl _, Le.refl _, True.intro⟩ True.intro rfl) ?_
  refine Ok.seq ?_
  refine Ok.region Try.tok ?_
  refine Ok.wk (Wk.tab (L := [(0, (.s (List.map c_api_Job p_s))), (1, (.c (.func 31) [(.a [(vi p_f_f0.id_), (vi p_f_f0.to_)])] []))]) (H' := []) ⟨Le.refl _, Le.refl _, True.intro⟩ True.intro rfl) ?_
  refine Ok.seqj (fun v1 => ⟨Cat.tab [], []⟩) (fun v1 => slices_IndexFunc_api_Job_api_Job__mend_spot_is_J1 v1 = some r) ?_ ?_
  · refine Ok.seq ?_
    refine Ok.region Try.tok ?_
    refine ⟨_, List.length_map _, fun _ => ?_⟩
    refine Ok.wk (Wk.tab (L := [(0, (.s (List.map c_api_Job p_s))), (1, (.c (.func 31) [(.a [(vi p_f_f0.id_), (vi p_f_f0.to_)])] [])), (7, (vi ((p_s.length : Int)))), (8, (vi (0)))]) (H' := []) ⟨Le.refl _, Le.refl _, Le.refl _, Le.refl _, True.intro⟩ True.intro rfl) ?_
    refine Ok.block ?_
    refine Ok.loop (fun (s1 : Int) => ⟨Cat.tab [(0, (.s (List.map c_api_Job p_s))), (1, (.c (.func 31) [(.a [(vi p_f_f0.id_), (vi p_f_f0.to_)])] [])), (7, (vi ((p_s.length : Int)))), (8, (vi s1))], []⟩) (slices_IndexFunc_api_Job_api_Job__mend_spot_is_B1 p_s p_f_f0) (s0 := 0) h (Wk.tab ⟨Le.refl _, Le.refl _, Le.refl _, Le.refl _, True.intro⟩ True.intro rfl) ?_
    intro s1 y1 hB1 hy1
    unfold slices_IndexFunc_api_Job_api_Job__mend_spot_is_B1 at hB1
    refine Ok.seq ?_
    refine Ok.region Try.tok ?_
    refine Ok.wk (Wk.tab (L := [(0, (.s (List.map c_api_Job p_s))), (1, (.c (.func 31) [(.a [(vi p_f_f0.id_), (vi p_f_f0.to_)])] [])), (7, (vi ((p_s.length : Int)))), (8, (vi s1)), (9, (vb ((decide (s1 < (p_s.length : Int))))))]) (H' := []) ⟨Le.refl _, Le.refl _, Le.refl _, Le.refl _, Le.refl _, True.intro⟩ True.intro rfl) ?_
    refine Ok.seq ?_
    refine Ok.cond (d := 9) (b := (decide (s1 < (p_s.length : Int)))) rfl hB1 (fun hb hB1 => ?_) fun hb hB1 => ?_
    · refine Ok.skip ?_
      refine Ok.seq ?_
      refine Ok.block ?_
      refine Ok.seq ?_
      refine Ok.region Try.tok ?_
      refine Ok.wk (Wk.tab (L := [(0, (.s (List.map c_api_Job p_s))), (1, (.c (.func 31) [(.a [(vi p_f_f0.id_), (vi p_f_f0.to_)])] [])), (5, (vi s1)), (7, (vi ((p_s.length : Int)))), (8, (vi s1))]) (H' := []) ⟨Le.refl _, Le.refl _, Le.refl _, Le.refl _, Le.refl _, True.intro⟩ True.intro rfl) ?_
      refine Ok.seq ?_
      refine Ok.region Try.tok ?_
      obtain ⟨x1, hx1, hB1⟩ := bindS hB1
      obtain ⟨x2, hx2, hB1⟩ := bindS hB1
      refine ⟨_, idx_nat hx1, _, idx_row hx1, ⟨_, rfl, ?_⟩⟩
      refine CallOk.call (w_mend_spot_is hx2) (LeL.refl _) ?_
      refine Ok.wk (Wk.tab (L := [(0, (.s (List.map c_api_Job p_s))), (1, (.c (.func 31) [(.a [(vi p_f_f0.id_), (vi p_f_f0.to_)])] [])), (5, (vi s1)), (7, (vi ((p_s.length : Int)))), (8, (vi s1)), (16, (vb x2))]) (H' := []) ⟨Le.refl _, Le.refl _, Le.refl _, Le.refl _, Le.refl _, Le.refl _, True.intro⟩ True.intro rfl) ?_
      refine Ok.cond (d := 16) (b := x2) rfl hB1 (fun hb hB1 => ?_) fun hb hB1 => ?_
      · refine Ok.seq ?_
        refine Ok.region Try.tok ?_
        refine Ok.wk (Wk.tab (L := [(4, (vi s1))]) (H' := []) ⟨Le.refl _, True.intro⟩ True.intro rfl) ?_
        refine Ok.ret ?_
        have hB1 := out_ret hB1 hy1
        cases hB1
        exact Fz.v
      · refine Ok.skip ?_
        refine Ok.region Try.tok ?_
        obtain ⟨hc1, hB1⟩ := chk_some hB1
        refine (Or.inl ⟨hc1, ?_⟩)
        exact ⟨_, (Option.some.inj hB1).symm, Wk.tab ⟨Le.refl _, Le.refl _, Le.refl _, Le.refl _, True.intro⟩ True.intro rfl⟩
    · refine Ok.exit ?_
      have hB1 := out_ret hB1 hy1
      exact ⟨_, hB1, Wk.tab True.intro True.intro rfl⟩
  intro v1 h
  unfold slices_IndexFunc_api_Job_api_Job__mend_spot_is_J1 at h
  refine Ok.seq ?_
  refine Ok.region Try.tok ?_
  refine Ok.wk (Wk.tab (L := [(4, (vi ((-1))))]) (H' := []) ⟨Le.refl _, True.intro⟩ True.intro rfl) ?_
  refine Ok.ret ?_
  cases h
  exact Fz.v

theorem w_slices_ContainsFunc_api_Job_api_Job__mend_spot_is {p_s : List api_Job} {p_f_f0 : mend_spot} {r : Bool} (h : slices_ContainsFunc_api_Job_api_Job__mend_spot_is p_s p_f_f0 = some r) : Pure Try.prog 29 [(.s (List.map c_api_Job p_s)), (.c (.func 31) [(.a [(vi p_f_f0.id_), (vi p_f_f0.to_)])] [])] (vb r) := by
  refine pure_of_ok (n := 9) (c := (Try.f29.body.getD .skip)) Try.tok Try.func29 (by kernel_rfl) rfl rfl (Nat.le_of_ble_eq_true rfl) ?_
  unfold slices_ContainsFunc_api_Job_api_Job__mend_spot_is at h
  refine Ok.wk (Wk.tab (L := [(0, (.s (List.map c_api_Job p_s))), (1, (.c (.func 31) [(.a [(vi p_f_f0.id_), (vi p_f_f0.to_)])] []))]) (H' := []) ⟨Le.refl _, Le.refl _, True.intro⟩ True.intro rfl) ?_
  refine Ok.seq ?_
  refine Ok.region Try.tok ?_
  refine Ok.wk (Wk.tab (L := [(0, (.s (List.map c_api_Job p_s))), (1, (.c (.func 31) [(.a [(vi p_f_f0.id_), (vi p_f_f0.to_)])] []))]) (H' := []) ⟨Le.refl _, Le.refl _, True.intro⟩ True.intro rfl) ?_
  refine Ok.seq ?_
  refine Ok.region Try.tok ?_
  obtain ⟨x1, hx1, h⟩ := bindS h
  refine CallOk.call (w_slices_IndexFunc_api_Job_api_Job__mend_spot_is hx1) (LeL.refl _) ?_
  refine Ok.wk (Wk.tab (L := [(4, (vb ((decide (x1 ≥ 0)))))]) (H' := []) ⟨Le.refl _, True.intro⟩ True.intro rfl) ?_
  refine Ok.ret ?_
  cases h
  exact Fz.v

theorem w_cmp_isNaN_int {p_x : Int} {r : Bool} (h : cmp_isNaN_int p_x = some r) : Pure Try.prog 40 [(vi p_x)] (vb r) := by
  refine pure_of_ok (n := 6) (c := (Try.f40.body.getD .skip)) Try.tok Try.func40 (by kernel_rfl) rfl rfl (Nat.le_of_ble_eq_true rfl) ?_
  unfold cmp_isNaN_int at h
  refine Ok.wk (Wk.tab (L := [(0, (vi p_x))]) (H' := []) ⟨Le.refl _, True.intro⟩ True.intro rfl) ?_
  refine Ok.seq ?_
  refine Ok.region Try.tok ?_
  refine Ok.wk (Wk.tab (L := [(0, (vi p_x))]) (H' := []) ⟨Le.refl _, True.intro⟩ True.intro rfl) ?_
  refine Ok.seq ?_
  refine Ok.region Try.tok ?_
  refine Ok.wk (Wk.tab (L := [(2, (vb ((p_x != p_x))))]) (H' := []) ⟨Le.refl _, True.intro⟩ True.intro rfl) ?_
  refine Ok.ret ?_
  cases h
  exact Fz.v

theorem w_cmp_Compare_int {p_x : Int} {p_y : Int} {r : Int} (h : cmp_Compare_int p_x p_y = some r) : Pure Try.prog 37 [(vi p_x), (vi p_y)] (vi r) := by
  refine pure_of_ok (n := 20) (c := (Try.f37.body.getD .skip)) Try.tok Try.func37 (by kernel_rfl) rfl rfl (Nat.le_of_ble_eq_true rfl) ?_
  unfold cmp_Compare_int at h
  refine Ok.wk (Wk.tab (L := [(0, (vi p_x)), (1, (vi p_y))]) (H' := []) ⟨Le.refl _, Le.refl _, True.intro⟩ True.intro rfl) ?_
  refine Ok.seq ?_
  refine Ok.region Try.tok ?_
  refine Ok.wk (Wk.tab (L := [(0, (vi p_x)), (1, (vi p_y))]) (H' := []) ⟨Le.refl _, Le.refl _, True.intro⟩ True.intro rfl) ?_
  refine Ok.seq ?_
  refine Ok.region Try.tok ?_
  obtain ⟨x1, hx1, h⟩ := bindS h
  refine CallOk.call (w_cmp_isNaN_int hx1) (LeL.refl _) ?_
  refine Ok.wk (Wk.tab (L := [(0, (vi p_x)), (1, (vi p_y)), (5, (vb x1))]) (H' := []) ⟨Le.refl _, Le.refl _, Le.refl _, True.intro⟩ True.intro rfl) ?_
  refine Ok.seq ?_
  refine Ok.region Try.tok ?_
  obtain ⟨x2, hx2, h⟩ := bindS h
  refine CallOk.call (w_cmp_isNaN_int hx2) (LeL.refl _) ?_
  refine Ok.wk (Wk.tab (L := [(0, (vi p_x)), (1, (vi p_y)), (5, (vb x1)), (6, (vb x2))]) (H' := []) ⟨Le.refl _, Le.refl _, Le.refl _, Le.refl _, True.intro⟩ True.intro rfl) ?_
  refine Ok.seq ?_
  refine Ok.seq ?_
  refine Ok.region Try.tok ?_
  refine Ok.wk (Wk.tab (L := [(0, (vi p_x)), (1, (vi p_y)), (6, (vb x2)), (11, (vb x1))]) (H' := []) ⟨Le.refl _, Le.refl _, Le.refl _, Le.refl _, True.intro⟩ True.intro rfl) ?_
  refine Ok.cond (d := 11) (b := x1) rfl h (fun hb h => ?_) fun hb h => ?_
  · refine Ok.seq ?_
    refine Ok.seq ?_
    refine Ok.region Try.tok ?_
    refine Ok.wk (Wk.tab (L := [(12, (vb x2))]) (H' := []) ⟨Le.refl _, True.intro⟩ True.intro rfl) ?_
    refine Ok.cond (d := 12) (b := x2) rfl h (fun hb h => ?_) fun hb h => ?_
    · refine Ok.seq ?_
      refine Ok.region Try.tok ?_
      refine Ok.wk (Wk.tab (L := [(4, (vi (0)))]) (H' := []) ⟨Le.refl _, True.intro⟩ True.intro rfl) ?_
      refine Ok.ret ?_
      cases h
      exact Fz.v
    · refine Ok.skip ?_
      refine Ok.seq ?_
      refine Ok.region Try.tok ?_
      refine Ok.wk (Wk.tab (L := [(4, (vi ((-1))))]) (H' := []) ⟨Le.refl _, True.intro⟩ True.intro rfl) ?_
      refine Ok.ret ?_
      cases h
      exact Fz.v
  · refine Ok.skip ?_
    refine Ok.seq ?_
    refine Ok.seq ?_
    refine Ok.region Try.tok ?_
    refine Ok.wk (Wk.tab (L := [(0, (vi p_x)), (1, (vi p_y)), (13, (vb x2))]) (H' := []) ⟨Le.refl _, Le.refl _, Le.refl _, True.intro⟩ True.intro rfl) ?_
    refine Ok.cond (d := 13) (b := x2) rfl h (fun hb h => ?_) fun hb h => ?_
    · refine Ok.seq ?_
      refine Ok.region Try.tok ?_
      refine Ok.wk (Wk.tab (L := [(4, (vi (1)))]) (H' := []) ⟨Le.refl _, True.intro⟩ True.intro rfl) ?_
      refine Ok.ret ?_
      cases h
      exact Fz.v
    · refine Ok.skip ?_
      refine Ok.seq ?_
      refine Ok.seq ?_
      refine Ok.region Try.tok ?_
      refine Ok.wk (Wk.tab (L := [(0, (vi p_x)), (1, (vi p_y)), (16, (vb ((decide (p_x < p_y)))))]) (H' := []) ⟨Le.refl _, Le.refl _, Le.refl _, True.intro⟩ True.intro rfl) ?_
      refine Ok.cond (d := 16) (b := (decide (p_x < p_y))) rfl h (fun hb h => ?_) fun hb h => ?_
      · refine Ok.seq ?_
        refine Ok.region Try.tok ?_
        refine Ok.wk (Wk.tab (L := [(4, (vi ((-1))))]) (H' := []) ⟨Le.refl _, True.intro⟩ True.intro rfl) ?_
        refine Ok.ret ?_
        cases h
        exact Fz.v
      · refine Ok.skip ?_
        refine Ok.seq ?_
        refine Ok.seq ?_
        refine Ok.region Try.tok ?_
        refine Ok.wk (Wk.tab (L := [(19, (vb ((decide (p_x > p_y)))))]) (H' := []) ⟨Le.refl _, True.intro⟩ True.intro rfl) ?_
        refine Ok.cond (d := 19) (b := (decide (p_x > p_y))) rfl h (fun hb h => ?_) fun hb h => ?_
        · refine Ok.seq ?_
          refine Ok.region Try.tok ?_
          refine Ok.wk (Wk.tab (L := [(4, (vi (1)))]) (H' := []) ⟨Le.refl _, True.intro⟩ True.intro rfl) ?_
          refine Ok.ret ?_
          cases h
          exact Fz.v
        · refine Ok.skip ?_
          refine Ok.seq ?_
          refine Ok.region Try.tok ?_
          refine Ok.wk (Wk.tab (L := [(4, (vi (0)))]) (H' := []) ⟨Le.refl _, True.intro⟩ True.intro rfl) ?_
          refine Ok.ret ?_
          cases h
          exact Fz.v

theorem w_cmp_Or_int {p_vals : List Int} {r : Int} (h : cmp_Or_int p_vals = some r) : Pure Try.prog 36 [(.s (List.map Go.Cat.encI p_vals))] (vi r) := by
  refine pure_of_ok (n := 18) (c := (Try.f36.body.getD .skip)) Try.tok Try.func36 (by kernel_rfl) rfl rfl (Nat.le_of_ble_eq_true rfl) ?_
  unfold cmp_Or_int at h
  refine Ok.wk (Wk.tab (L := [(0, (.s (List.map Go.Cat.encI p_vals)))]) (H' := []) ⟨Le.refl _, True.intro⟩ True.intro rfl) ?_
  refine Ok.seq ?_
  refine Ok.region Try.tok ?_
  refine Ok.wk (Wk.tab (L := [(0, (.s (List.map Go.Cat.encI p_vals)))]) (H' := []) ⟨Le.refl _, True.intro⟩ True.intro rfl) ?_
  refine Ok.seq ?_
  refine Ok.region Try.tok ?_
  refine Ok.wk (Wk.tab (L := [(0, (.s (List.map Go.Cat.encI p_vals))), (3, (vi (0)))]) (H' := []) ⟨Le.refl _, Le.refl _, True.intro⟩ True.intro rfl) ?_
  refine Ok.seqj (fun v1 => ⟨Cat.tab [(3, (vi (0)))], []⟩) (fun v1 => cmp_Or_int_J1 v1 = some r) ?_ ?_
  · refine Ok.seq ?_
    refine Ok.region Try.tok ?_
    refine ⟨_, List.length_map _, fun _ => ?_⟩
    refine Ok.wk (Wk.tab (L := [(3, (vi (0))), (6, (.s (List.map Go.Cat.encI p_vals))), (7, (vi ((p_vals.length : Int)))), (8, (vi (0)))]) (H' := []) ⟨Le.refl _, Le.refl _, Le.refl _, Le.refl _, True.intro⟩ True.intro rfl) ?_
    refine Ok.block ?_
    refine Ok.loop (fun (s1 : Int) => ⟨Cat.tab [(3, (vi (0))), (6, (.s (List.map Go.Cat.encI p_vals))), (7, (vi ((p_vals.length : Int)))), (8, (vi s1))], []⟩) (cmp_Or_int_B1 p_vals) (s0 := 0) h (Wk.tab ⟨Le.refl _, Le.refl _, Le.refl _, Le.refl _, True.intro⟩ True.intro rfl) ?_
    intro s1 y1 hB1 hy1
    unfold cmp_Or_int_B1 at hB1
    refine Ok.seq ?_
    refine Ok.region Try.tok ?_
    refine Ok.wk (Wk.tab (L := [(3, (vi (0))), (6, (.s (List.map Go.Cat.encI p_vals))), (7, (vi ((p_vals.length : Int)))), (8, (vi s1)), (9, (vb ((decide (s1 < (p_vals.length : Int))))))]) (H' := []) ⟨Le.refl _, Le.refl _, Le.refl _, Le.refl _, Le.refl _, True.intro⟩ True.intro rfl) ?_
    refine Ok.seq ?_
    refine Ok.cond (d := 9) (b := (decide (s1 < (p_vals.length : Int)))) rfl hB1 (fun hb hB1 => ?_) fun hb hB1 => ?_
    · refine Ok.skip ?_
      refine Ok.seq ?_
      refine Ok.block ?_
      refine Ok.seq ?_
      refine Ok.region Try.tok ?_
      obtain ⟨x1, hx1, hB1⟩ := bindS hB1
      refine ⟨_, idx_nat hx1, _, idx_row hx1, ⟨_, rfl, ?_⟩⟩
      refine Ok.wk (Wk.tab (L := [(3, (vi (0))), (5, (vi x1)), (6, (.s (List.map Go.Cat.encI p_vals))), (7, (vi ((p_vals.length : Int)))), (8, (vi s1))]) (H' := []) ⟨Le.refl _, Le.refl _, Le.refl _, Le.refl _, Le.refl _, True.intro⟩ True.intro rfl) ?_
      refine Ok.seq ?_
      refine Ok.region Try.tok ?_
      refine Ok.wk (Wk.tab (L := [(3, (vi (0))), (5, (vi x1)), (6, (.s (List.map Go.Cat.encI p_vals))), (7, (vi ((p_vals.length : Int)))), (8, (vi s1)), (14, (vb ((x1 != 0))))]) (H' := []) ⟨Le.refl _, Le.refl _, Le.refl _, Le.refl _, Le.refl _, Le.refl _, True.intro⟩ True.intro rfl) ?_
      refine Ok.cond (d := 14) (b := (x1 != 0)) rfl hB1 (fun hb hB1 => ?_) fun hb hB1 => ?_
      · refine Ok.seq ?_
        refine Ok.region Try.tok ?_
        refine Ok.wk (Wk.tab (L := [(2, (vi x1))]) (H' := []) ⟨Le.refl _, True.intro⟩ True.intro rfl) ?_
        refine Ok.ret ?_
        have hB1 := out_ret hB1 hy1
        cases hB1
        exact Fz.v
      · refine Ok.skip ?_
        refine Ok.region Try.tok ?_
        obtain ⟨hc1, hB1⟩ := chk_some hB1
        refine (Or.inl ⟨hc1, ?_⟩)
        exact ⟨_, (Option.some.inj hB1).symm, Wk.tab ⟨Le.refl _, Le.refl _, Le.refl _, Le.refl _, True.intro⟩ True.intro rfl⟩
    · refine Ok.exit ?_
      have hB1 := out_ret hB1 hy1
      exact ⟨_, hB1, Wk.tab ⟨Le.refl _, True.intro⟩ True.intro rfl⟩
  intro v1 h
  unfold cmp_Or_int_J1 at h
  refine Ok.seq ?_
  refine Ok.region Try.tok ?_
  refine Ok.wk (Wk.tab (L := [(2, (vi (0)))]) (H' := []) ⟨Le.refl _, True.intro⟩ True.intro rfl) ?_
  refine Ok.ret ?_
  cases h
  exact Fz.v

theorem w_mend_against {p_a : api_Job} {p_b : api_Job} {r : Int} (h : mend_against p_a p_b = some r) : Pure Try.prog 32 [(.a [(vi p_a.Id), (vi p_a.Ver), (vi p_a.From), (vi p_a.To), (vi p_a.Have), (vi p_a.Left)]), (.a [(vi p_b.Id), (vi p_b.Ver), (vi p_b.From), (vi p_b.To), (vi p_b.Have), (vi p_b.Left)])] (vi r) := by
  refine pure_of_ok (n := 22) (c := (Try.f32.body.getD .skip)) Try.tok Try.func32 (by kernel_rfl) rfl rfl (Nat.le_of_ble_eq_true rfl) ?_
  unfold mend_against at h
  refine Ok.wk (Wk.tab (L := [(0, (.a [(vi p_a.Id), (vi p_a.Ver), (vi p_a.From), (vi p_a.To), (vi p_a.Have), (vi p_a.Left)])), (1, (.a [(vi p_b.Id), (vi p_b.Ver), (vi p_b.From), (vi p_b.To), (vi p_b.Have), (vi p_b.Left)]))]) (H' := []) ⟨Le.refl _, Le.refl _, True.intro⟩ True.intro rfl) ?_
  refine Ok.seq ?_
  refine Ok.region Try.tok ?_
  refine Ok.wk (Wk.tab (L := [(2, (.b 2 0)), (3, (.b 3 0))]) (H' := [(2, .box [(vi p_a.Id), (vi p_a.Ver), (vi p_a.From), (vi p_a.To), (vi p_a.Have), (vi p_a.Left)]), (3, .box [(vi p_b.Id), (vi p_b.Ver), (vi p_b.From), (vi p_b.To), (vi p_b.Have), (vi p_b.Left)])]) ⟨Le.refl _, Le.refl _, True.intro⟩ ⟨⟨_, rfl, .refl _⟩, ⟨_, rfl, .refl _⟩, True.intro⟩ rfl) ?_
  refine Ok.seq ?_
  refine Ok.draw (m := 18) Try.tok Try.mixed (by kernel_rfl) ?_
  obtain ⟨x1, hx1, h⟩ := bindS h
  obtain ⟨x2, hx2, h⟩ := bindS h
  obtain ⟨x3, hx3, h⟩ := bindS h
  obtain ⟨x4, hx4, h⟩ := bindS h
  refine ⟨_, rfl, ⟨_, ⟨_, rfl, rfl⟩, ⟨_, rfl, ⟨_, ⟨_, rfl, rfl⟩, ⟨_, ⟨_, .of_pure (w_cmp_Compare_int hx1) (LeL.refl _), rfl⟩, ⟨_, rfl, ⟨_, ⟨_, rfl, rfl⟩, ⟨_, rfl, ⟨_, ⟨_, rfl, rfl⟩, ⟨_, ⟨_, .of_pure (w_cmp_Compare_int hx2) (LeL.refl _), rfl⟩, ⟨_, rfl, ⟨_, ⟨_, rfl, rfl⟩, ⟨_, rfl, ⟨_, ⟨_, rfl, rfl⟩, ⟨_, ⟨_, .of_pure (w_cmp_Compare_int hx3) (LeL.refl _), rfl⟩, ⟨_, rfl, ⟨_, ⟨_, .of_pure (w_cmp_Or_int hx4) (LeL.refl _), rfl⟩, ⟨_, rfl, ?_⟩⟩⟩⟩⟩⟩⟩⟩⟩⟩⟩⟩⟩⟩⟩⟩⟩⟩
  refine Ok.wk (Wk.tab (L := [(4, (vi x4))]) (H' := []) ⟨Le.refl _, True.intro⟩ True.intro rfl) ?_
  refine Ok.ret ?_
  cases h
  exact Fz.v

theorem wo_mend_Order {p_l : List api_Job} {r : (List api_Job)} (h : mend_Order p_l = some r) : POwn Try.prog 17 [(.s (List.map c_api_Job p_l))] 33 6 (List.map c_api_Job r) := by
  refine pown_of_ok (n := 30) (c := (Try.f17.body.getD .skip)) Try.tok Try.func17 (by kernel_rfl) rfl rfl (Nat.le_of_ble_eq_true rfl) ?_
  unfold mend_Order at h
  refine Ok.wk (Wk.tab (L := [(0, (.s (List.map c_api_Job p_l)))]) (H' := []) ⟨Le.refl _, True.intro⟩ True.intro rfl) ?_
  refine Ok.seq ?_
  refine Ok.region Try.tok ?_
  refine Ok.wk (Wk.tab (L := [(0, (.s (List.map c_api_Job p_l)))]) (H' := []) ⟨Le.refl _, True.intro⟩ True.intro rfl) ?_
  refine Ok.seq ?_
  refine Ok.region Try.tok ?_
  refine Ok.wk (Wk.tab (L := [(0, (.s (List.map c_api_Job p_l))), (3, (.v (.slice none 0 0)))]) (H' := []) ⟨Le.refl _, Le.refl _, True.intro⟩ True.intro rfl) ?_
  obtain ⟨v1, hv1, h⟩ := bindS h
  refine Ok.seqw ⟨Cat.tab [(3, (.o 25))], [(25, .own 33 6 (List.map c_api_Job v1))]⟩ ?_ ?_
  · refine Ok.seq ?_
    refine Ok.region Try.tok ?_
    refine ⟨_, List.length_map _, fun _ => ?_⟩
    refine Ok.wk (Wk.tab (L := [(3, (.v (.slice none 0 0))), (6, (.s (List.map c_api_Job p_l))), (7, (vi ((p_l.length : Int)))), (8, (vi (0)))]) (H' := []) ⟨Le.refl _, Le.refl _, Le.refl _, Le.refl _, True.intro⟩ True.intro rfl) ?_
    refine Ok.block ?_
    refine Ok.loop (fun (s1 : Int × (List api_Job)) => ⟨Cat.tab [(3, (.o 25)), (6, (.s (List.map c_api_Job p_l))), (7, (vi ((p_l.length : Int)))), (8, (vi s1.1))], [(25, .own 33 6 (List.map c_api_Job s1.2))]⟩) (mend_Order_B1 p_l) (s0 := (0, [])) hv1 ((Wk.own0 (t := 3) (id := 25) (E := 33) (K := 6) rfl rfl).trans (Wk.tab ⟨Le.refl _, Le.refl _, Le.refl _, Le.refl _, True.intro⟩ ⟨⟨_, rfl, .refl _⟩, True.intro⟩ rfl)) ?_
    intro s1 y1 hB1 hy1
    unfold mend_Order_B1 at hB1
    refine Ok.seq ?_
    refine Ok.region Try.tok ?_
    refine Ok.wk (Wk.tab (L := [(3, (.o 25)), (6, (.s (List.map c_api_Job p_l))), (7, (vi ((p_l.length : Int)))), (8, (vi s1.1)), (9, (vb ((decide (s1.1 < (p_l.length : Int))))))]) (H' := [(25, .own 33 6 (List.map c_api_Job s1.2))]) ⟨Le.refl _, Le.refl _, Le.refl _, Le.refl _, Le.refl _, True.intro⟩ ⟨⟨_, rfl, .refl _⟩, True.intro⟩ rfl) ?_
    refine Ok.seq ?_
    refine Ok.cond (d := 9) (b := (decide (s1.1 < (p_l.length : Int)))) rfl hB1 (fun hb hB1 => ?_) fun hb hB1 => ?_
    · refine Ok.skip ?_
      obtain ⟨v2, hv2, hB1⟩ := bindS hB1
      refine Ok.seqw ⟨Cat.tab [(3, (.o 25)), (6, (.s (List.map c_api_Job p_l))), (7, (vi ((p_l.length : Int)))), (8, (vi s1.1))], [(25, .own 33 6 (List.map c_api_Job v2))]⟩ ?_ ?_
      · refine Ok.block ?_
        refine Ok.seq ?_
        refine Ok.region Try.tok ?_
        obtain ⟨x1, hx1, hv2⟩ := bindS hv2
        refine ⟨_, idx_nat hx1, _, idx_row hx1, ⟨_, rfl, ⟨_, rfl, ?_⟩⟩⟩
        refine Ok.wk (Wk.tab (L := [(3, (.o 25)), (5, (.b 5 0)), (6, (.s (List.map c_api_Job p_l))), (7, (vi ((p_l.length : Int)))), (8, (vi s1.1))]) (H' := [(25, .own 33 6 (List.map c_api_Job s1.2)), (5, .box [(vi x1.Id), (vi x1.Ver), (vi x1.From), (vi x1.To), (vi x1.Have), (vi x1.Left)])]) ⟨Le.refl _, Le.refl _, Le.refl _, Le.refl _, Le.refl _, True.intro⟩ ⟨⟨_, rfl, .refl _⟩, ⟨_, rfl, .refl _⟩, True.intro⟩ rfl) ?_
        obtain ⟨v3, hv3, hv2⟩ := bindS hv2
        refine Ok.seqw ⟨Cat.tab [(3, (.o 25)), (5, (.b 5 0)), (6, (.s (List.map c_api_Job p_l))), (7, (vi ((p_l.length : Int)))), (8, (vi s1.1)), (21, (vb v3))], [(25, .own 33 6 (List.map c_api_Job s1.2)), (5, .box [(vi x1.Id), (vi x1.Ver), (vi x1.From), (vi x1.To), (vi x1.Have), (vi x1.Left)])]⟩ ?_ ?_
        · refine Ok.region Try.tok ?_
          obtain ⟨x2, hx2, hv3⟩ := bindS hv3
          refine ⟨_, rfl, ?_⟩
          refine CallOk.call (w_mend_may hx2) (LeL.refl _) ?_
          obtain ⟨c1, hg1, hv3⟩ := bindS hv3
          refine Br.ite hg1 (fun hb hg1 => ?_) fun hb hg1 => ?_
          · obtain ⟨x3, hx3, hg1⟩ := bindS hg1
            refine ⟨_, rfl, ?_⟩
            refine CallOk.call (w_mend_of hx3) (LeL.refl _) ?_
            obtain ⟨x4, hx4, hg1⟩ := bindS hg1
            refine CallOk.borrow (w_slices_ContainsFunc_api_Job_api_Job__mend_spot_is hx4) (.cons (Fz.o rfl) (.cons (Fz.c (.cons (Fz.a (.cons Fz.v (.cons Fz.v .nil))) .nil) .nil) (.nil))) rfl ?_
            cases hg1
            cases hv3
            exact Wk.tab ⟨Le.refl _, Le.refl _, Le.refl _, Le.refl _, Le.refl _, Le.refl _, True.intro⟩ ⟨⟨_, rfl, .refl _⟩, ⟨_, rfl, .refl _⟩, True.intro⟩ rfl
          · cases hg1
            cases hv3
            exact Wk.tab ⟨Le.refl _, Le.refl _, Le.refl _, Le.refl _, Le.refl _, Le.refl _, True.intro⟩ ⟨⟨_, rfl, .refl _⟩, ⟨_, rfl, .refl _⟩, True.intro⟩ rfl
        refine Ok.cond (d := 21) (b := v3) rfl hv2 (fun hb hv2 => ?_) fun hb hv2 => ?_
        · refine Ok.region Try.tok ?_
          obtain ⟨hc1, hv2⟩ := chk_some hv2
          refine ⟨_, rfl, Or.inl ⟨rowsLen_map (f := c_api_Job) (n := 6) (fun _ => rfl) ([x1]), app_b2 (f := c_api_Job) (l := s1.2) (l' := ([x1])) hc1, _, (List.map_append (f := c_api_Job) (l₁ := s1.2) (l₂ := ([x1]))).symm, ?_⟩⟩
          cases hv2
          exact Wk.tab ⟨Le.refl _, Le.refl _, Le.refl _, Le.refl _, True.intro⟩ ⟨⟨_, rfl, .refl _⟩, True.intro⟩ rfl
        · refine Ok.skip ?_
          cases hv2
          exact Wk.tab ⟨Le.refl _, Le.refl _, Le.refl _, Le.refl _, True.intro⟩ ⟨⟨_, rfl, .refl _⟩, True.intro⟩ rfl
      refine Ok.region Try.tok ?_
      obtain ⟨hc2, hB1⟩ := chk_some hB1
      refine (Or.inl ⟨hc2, ?_⟩)
      exact ⟨_, (Option.some.inj hB1).symm, Wk.tab ⟨Le.refl _, Le.refl _, Le.refl _, Le.refl _, True.intro⟩ ⟨⟨_, rfl, .refl _⟩, True.intro⟩ rfl⟩
    · refine Ok.exit ?_
      have hB1 := out_ret hB1 hy1
      cases hB1
      exact Wk.tab ⟨Le.refl _, True.intro⟩ ⟨⟨_, rfl, .refl _⟩, True.intro⟩ rfl
  refine Ok.seq ?_
  refine Ok.region Try.tok ?_
  obtain ⟨x5, hx5, h⟩ := bindS h
  refine CallOk.chgLe (id := 25) (pchg_sortF (E := 33) (enc := c_api_Job) Try.says33 Try.enters33 (fun _ => rfl) (fun _ => rfl) (fun _ _ _ h => w_mend_against h) (enters_of Try.func32 (by kernel_rfl) rfl) hx5) rfl (.refl _) rfl (.cons Lr.o (.cons (Lr.imm rfl) .nil)) ?_
  rintro _ _ ⟨rfl, rfl⟩
  refine Ok.wk (Wk.tab (L := [(3, (.o 25))]) (H' := [(25, .own 33 6 (List.map c_api_Job x5))]) ⟨Le.refl _, True.intro⟩ ⟨⟨_, rfl, .refl _⟩, True.intro⟩ rfl) ?_
  refine Ok.seq ?_
  refine Ok.region Try.tok ?_
  refine Ok.wk (Wk.tab (L := [(2, (.o 25))]) (H' := [(25, .own 33 6 (List.map c_api_Job x5))]) ⟨Le.refl _, True.intro⟩ ⟨⟨_, rfl, .refl _⟩, True.intro⟩ rfl) ?_
  refine Ok.ret ?_
  cases h
  exact (.inr ⟨_, rfl, rfl⟩)
theorem w_mend_Order {p_l : List api_Job} {r : (List api_Job)} (h : mend_Order p_l = some r) : Pure Try.prog 17 [(.s (List.map c_api_Job p_l))] (.s (List.map c_api_Job r)) := (wo_mend_Order h).pure

theorem wo_slices_Clone_api_Job_api_Job {p_s : List api_Job} {r : (List api_Job)} (h : slices_Clone_api_Job_api_Job p_s = some r) : POwn Try.prog 27 [(.s (List.map c_api_Job p_s))] 33 6 (List.map c_api_Job r) := by
  refine pown_of_ok (n := 8) (c := (Try.f27.body.getD .skip)) Try.tok Try.func27 (by kernel_rfl) rfl rfl (Nat.le_of_ble_eq_true rfl) ?_
  unfold slices_Clone_api_Job_api_Job at h
  refine Ok.wk (Wk.tab (L := [(0, (.s (List.map c_api_Job p_s)))]) (H' := []) ⟨Le.refl _, True.intro⟩ True.intro rfl) ?_
  refine Ok.seq ?_
  refine Ok.region Try.tok ?_
  refine Ok.wk (Wk.tab (L := [(0, (.s (List.map c_api_Job p_s)))]) (H' := []) ⟨Le.refl _, True.intro⟩ True.intro rfl) ?_
  refine Ok.seq ?_
  refine Ok.seq ?_
  refine Ok.region Try.tok ?_
  intro b1 hb1
  have h := anyOf_some h b1 (fun e => List.map_eq_nil_iff.1 (hb1 e))
  refine Ok.wk (Wk.tab (L := [(0, (.s (List.map c_api_Job p_s))), (4, (vb b1))]) (H' := []) ⟨Le.refl _, Le.refl _, True.intro⟩ True.intro rfl) ?_
  refine Ok.cond (d := 4) (b := b1) rfl h (fun hb h => ?_) fun hb h => ?_
  · refine Ok.seq ?_
    refine Ok.region Try.tok ?_
    refine Ok.wk (Wk.tab (L := [(2, (.v (.slice none 0 0)))]) (H' := []) ⟨Le.refl _, True.intro⟩ True.intro rfl) ?_
    refine Ok.ret ?_
    cases h
    exact (.inl ⟨rfl, rfl⟩)
  · refine Ok.skip ?_
    refine Ok.seq ?_
    refine Ok.region Try.tok ?_
    obtain ⟨hc1, h⟩ := chk_some h
    refine Or.inr ⟨rowsLen_map (f := c_api_Job) (n := 6) (fun _ => rfl) p_s, app_b2 (f := c_api_Job) (l := (([] : List api_Job))) (l' := p_s) hc1, _, (List.map_append (f := c_api_Job) (l₁ := (([] : List api_Job))) (l₂ := p_s)).symm, ?_⟩
    refine Ok.wk (Wk.tab (L := [(2, (.o 5))]) (H' := [(5, .own 33 6 (List.map c_api_Job ((([] : List api_Job) ++ p_s))))]) ⟨Le.refl _, True.intro⟩ ⟨⟨_, rfl, .refl _⟩, True.intro⟩ rfl) ?_
    refine Ok.ret ?_
    cases h
    exact (.inr ⟨_, rfl, rfl⟩)
theorem w_slices_Clone_api_Job_api_Job {p_s : List api_Job} {r : (List api_Job)} (h : slices_Clone_api_Job_api_Job p_s = some r) : Pure Try.prog 27 [(.s (List.map c_api_Job p_s))] (.s (List.map c_api_Job r)) := (wo_slices_Clone_api_Job_api_Job h).pure

theorem w_mend_Step {p_l : List api_Job} {p_budget : Int} {r : (List api_Job) × (List api_Job)} (h : mend_Step p_l p_budget = some r) : Pure Try.prog 12 [(.s (List.map c_api_Job p_l)), (vi p_budget)] (.t [(.s (List.map c_api_Job r.1)), (.s (List.map c_api_Job r.2))]) := by
  refine pure_of_ok (n := 44) (c := (Try.f12.body.getD .skip)) Try.tok Try.func12 (by kernel_rfl) rfl rfl (Nat.le_of_ble_eq_true rfl) ?_
  unfold mend_Step at h
  refine Ok.wk (Wk.tab (L := [(0, (.s (List.map c_api_Job p_l))), (1, (vi p_budget))]) (H' := []) ⟨Le.refl _, Le.refl _, True.intro⟩ True.intro rfl) ?_
  refine Ok.seq ?_
  refine Ok.region Try.tok ?_
  refine Ok.wk (Wk.tab (L := [(0, (.s (List.map c_api_Job p_l))), (1, (vi p_budget))]) (H' := []) ⟨Le.refl _, Le.refl _, True.intro⟩ True.intro rfl) ?_
  refine Ok.scope ?_
  refine Ok.seq ?_
  refine Ok.region Try.tok ?_
  refine Ok.wk (Wk.tab (L := [(0, (.s (List.map c_api_Job p_l))), (1, (vi p_budget)), (6, (.v (.slice none 0 0)))]) (H' := []) ⟨Le.refl _, Le.refl _, Le.refl _, True.intro⟩ True.intro rfl) ?_
  refine Ok.seq ?_
  refine Ok.region Try.tok ?_
  obtain ⟨x1, hx1, h⟩ := bindS h
  refine CallOk.own (D := 10) (wo_slices_Clone_api_Job_api_Job hx1) (LeL.refl _) rfl ?_
  refine Ok.wk (Wk.tab (L := [(1, (vi p_budget)), (6, (.v (.slice none 0 0))), (7, (.o 10))]) (H' := [(10, .own 33 6 (List.map c_api_Job x1))]) ⟨Le.refl _, Le.refl _, Le.refl _, True.intro⟩ ⟨⟨_, rfl, .refl _⟩, True.intro⟩ rfl) ?_
  refine Ok.seq ?_
  refine Ok.label ?_
  obtain ⟨v1, hv1, h⟩ := bindS h
  refine Ok.seqw ⟨Cat.tab [(6, (.o 39)), (7, (.w 10 6 v1.1))], [(39, .own 33 6 (List.map c_api_Job v1.2.1)), (10, .own 33 6 (List.map c_api_Job v1.2.2))]⟩ ?_ ?_
  · refine Ok.block ?_
    refine Ok.loop (fun (s1 : Int × Nat × (List api_Job)) => ⟨Cat.tab [(1, (vi s1.1)), (6, (.o 39)), (7, (.w 10 6 s1.2.1))], [(39, .own 33 6 (List.map c_api_Job s1.2.2)), (10, .own 33 6 (List.map c_api_Job x1))]⟩) (mend_Step_B1 x1) (s0 := (p_budget, 0, [])) hv1 ((Wk.own0 (t := 6) (id := 39) (E := 33) (K := 6) rfl rfl).trans (Wk.tab ⟨Le.refl _, Le.refl _, Le.ow, True.intro⟩ ⟨⟨_, rfl, .refl _⟩, ⟨_, rfl, .refl _⟩, True.intro⟩ rfl)) ?_
    intro s1 y1 hB1 hy1
    unfold mend_Step_B1 at hB1
    refine Ok.seq ?_
    refine Ok.seq ?_
    refine Ok.region Try.tok ?_
    refine ⟨_, wlen _ _, fun _ => ?_⟩
    refine Ok.wk (Wk.tab (L := [(1, (vi s1.1)), (6, (.o 39)), (7, (.w 10 6 s1.2.1)), (13, (vb ((decide (((x1.drop s1.2.1).length : Int) > 0)))))]) (H' := [(39, .own 33 6 (List.map c_api_Job s1.2.2)), (10, .own 33 6 (List.map c_api_Job x1))]) ⟨Le.refl _, Le.refl _, Le.refl _, Le.refl _, True.intro⟩ ⟨⟨_, rfl, .refl _⟩, ⟨_, rfl, .refl _⟩, True.intro⟩ rfl) ?_
    refine Ok.cond (d := 13) (b := (decide (((x1.drop s1.2.1).length : Int) > 0))) rfl hB1 (fun hb hB1 => ?_) fun hb hB1 => ?_
    · refine Ok.skip ?_
      refine Ok.block ?_
      refine Ok.seq ?_
      refine Ok.region Try.tok ?_
      obtain ⟨x2, hx2, hB1⟩ := bindS hB1
      refine ⟨_, idx_nat hx2, idx_ltd hx2, ⟨_, idx_rowd hx2, rfl, _, rfl, ⟨_, rfl, ?_⟩⟩⟩
      refine Ok.wk (Wk.tab (L := [(1, (vi s1.1)), (6, (.o 39)), (7, (.w 10 6 s1.2.1)), (8, (.b 8 0))]) (H' := [(39, .own 33 6 (List.map c_api_Job s1.2.2)), (10, .own 33 6 (List.map c_api_Job x1)), (8, .box [(vi x2.Id), (vi x2.Ver), (vi x2.From), (vi x2.To), (vi x2.Have), (vi x2.Left)])]) ⟨Le.refl _, Le.refl _, Le.refl _, Le.refl _, True.intro⟩ ⟨⟨_, rfl, .refl _⟩, ⟨_, rfl, .refl _⟩, ⟨_, rfl, .refl _⟩, True.intro⟩ rfl) ?_
      refine Ok.block ?_
      refine Ok.seq ?_
      refine Ok.region Try.tok ?_
      refine ⟨_, rfl, ?_⟩
      refine Ok.wk (Wk.tab (L := [(1, (vi s1.1)), (6, (.o 39)), (7, (.w 10 6 s1.2.1)), (8, (.b 8 0)), (26, (vb ((decide (s1.1 ≥ x2.Left)))))]) (H' := [(39, .own 33 6 (List.map c_api_Job s1.2.2)), (10, .own 33 6 (List.map c_api_Job x1)), (8, .box [(vi x2.Id), (vi x2.Ver), (vi x2.From), (vi x2.To), (vi x2.Have), (vi x2.Left)])]) ⟨Le.refl _, Le.refl _, Le.refl _, Le.refl _, Le.refl _, True.intro⟩ ⟨⟨_, rfl, .refl _⟩, ⟨_, rfl, .refl _⟩, ⟨_, rfl, .refl _⟩, True.intro⟩ rfl) ?_
      refine Ok.cond (d := 26) (b := (decide (s1.1 ≥ x2.Left))) rfl hB1 (fun hb hB1 => ?_) fun hb hB1 => ?_
      · refine Ok.seq ?_
        refine Ok.region Try.tok ?_
        obtain ⟨hc1, hB1⟩ := chk_some hB1
        refine ⟨_, rfl, (Or.inl ⟨hc1, ?_⟩)⟩
        refine Ok.wk (Wk.tab (L := [(1, (vi ((s1.1 - x2.Left)))), (6, (.o 39)), (7, (.w 10 6 s1.2.1)), (8, (.b 8 0))]) (H' := [(39, .own 33 6 (List.map c_api_Job s1.2.2)), (10, .own 33 6 (List.map c_api_Job x1)), (8, .box [(vi x2.Id), (vi x2.Ver), (vi x2.From), (vi x2.To), (vi x2.Have), (vi x2.Left)])]) ⟨Le.refl _, Le.refl _, Le.refl _, Le.refl _, True.intro⟩ ⟨⟨_, rfl, .refl _⟩, ⟨_, rfl, .refl _⟩, ⟨_, rfl, .refl _⟩, True.intro⟩ rfl) ?_
        refine Ok.seq ?_
        refine Ok.region Try.tok ?_
        refine ⟨_, rfl, ?_⟩
        refine Ok.wk (Wk.tab (L := [(1, (vi ((s1.1 - x2.Left)))), (6, (.o 39)), (7, (.w 10 6 s1.2.1)), (8, (.b 8 0))]) (H' := [(39, .own 33 6 (List.map c_api_Job s1.2.2)), (10, .own 33 6 (List.map c_api_Job x1)), (8, .box [(vi x2.Id), (vi x2.Ver), (vi x2.From), (vi x2.To), (vi x2.Have), (vi (0))])]) ⟨Le.refl _, Le.refl _, Le.refl _, Le.refl _, True.intro⟩ ⟨⟨_, rfl, .refl _⟩, ⟨_, rfl, .refl _⟩, ⟨_, rfl, .refl _⟩, True.intro⟩ rfl) ?_
        refine Ok.seq ?_
        refine Ok.region Try.tok ?_
        obtain ⟨hc2, hB1⟩ := chk_some hB1
        refine ⟨_, rfl, Or.inl ⟨rowsLen_map (f := c_api_Job) (n := 6) (fun _ => rfl) ([(⟨x2.Id, x2.Ver, x2.From, x2.To, x2.Have, 0⟩ : api_Job)]), app_b2 (f := c_api_Job) (l := s1.2.2) (l' := ([(⟨x2.Id, x2.Ver, x2.From, x2.To, x2.Have, 0⟩ : api_Job)])) hc2, _, (List.map_append (f := c_api_Job) (l₁ := s1.2.2) (l₂ := ([(⟨x2.Id, x2.Ver, x2.From, x2.To, x2.Have, 0⟩ : api_Job)]))).symm, ?_⟩⟩
        refine Ok.wk (Wk.tab (L := [(1, (vi ((s1.1 - x2.Left)))), (6, (.o 39)), (7, (.w 10 6 s1.2.1))]) (H' := [(39, .own 33 6 (List.map c_api_Job ((s1.2.2 ++ [(⟨x2.Id, x2.Ver, x2.From, x2.To, x2.Have, 0⟩ : api_Job)])))), (10, .own 33 6 (List.map c_api_Job x1))]) ⟨Le.refl _, Le.refl _, Le.refl _, True.intro⟩ ⟨⟨_, rfl, .refl _⟩, ⟨_, rfl, .refl _⟩, True.intro⟩ rfl) ?_
        refine Ok.region Try.tok ?_
        obtain ⟨hc3, hB1⟩ := chk_some hB1
        refine ⟨1, rfl, wsl' hc3, ?_⟩
        exact ⟨_, (Option.some.inj hB1).symm, Wk.tab ⟨Le.refl _, Le.refl _, Le.refl _, True.intro⟩ ⟨⟨_, rfl, .refl _⟩, ⟨_, rfl, .refl _⟩, True.intro⟩ rfl⟩
      · refine Ok.seq ?_
        refine Ok.region Try.tok ?_
        obtain ⟨x3, hx3, hB1⟩ := bindS hB1
        obtain ⟨hc4, hB1⟩ := chk_some hB1
        obtain ⟨x4, hx4, hB1⟩ := bindS hB1
        refine ⟨_, idx_nat hx3, idx_ltd hx3, ⟨_, idx_rowd hx3, rfl, _, rfl, ⟨_, rfl, (Or.inl ⟨hc4, ⟨_, idx_nat hx4, idx_ltd hx4, ⟨_, idx_rowd hx4, rfl, _, rfl, _, set_row (f := c_api_Job) (x := (⟨x4.Id, x4.Ver, x4.From, x4.To, x4.Have, (x3.Left - (max s1.1 (0)))⟩ : api_Job)), ?_⟩⟩⟩)⟩⟩⟩
        refine Ok.wk (Wk.tab (L := [(6, (.o 39)), (7, (.w 10 6 s1.2.1))]) (H' := [(39, .own 33 6 (List.map c_api_Job s1.2.2)), (10, .own 33 6 (List.map c_api_Job ((x1.set (s1.2.1 + (0 : Int).toNat) (⟨x4.Id, x4.Ver, x4.From, x4.To, x4.Have, (x3.Left - (max s1.1 (0)))⟩ : api_Job)))))]) ⟨Le.refl _, Le.refl _, True.intro⟩ ⟨⟨_, rfl, .refl _⟩, ⟨_, rfl, .refl _⟩, True.intro⟩ rfl) ?_
        refine Ok.exit ?_
        have hB1 := out_ret hB1 hy1
        cases hB1
        exact Wk.tab ⟨Le.refl _, Le.refl _, True.intro⟩ ⟨⟨_, rfl, .refl _⟩, ⟨_, rfl, .refl _⟩, True.intro⟩ rfl
    · refine Ok.exit ?_
      have hB1 := out_ret hB1 hy1
      cases hB1
      exact Wk.tab ⟨Le.refl _, Le.refl _, True.intro⟩ ⟨⟨_, rfl, .refl _⟩, ⟨_, rfl, .refl _⟩, True.intro⟩ rfl
  refine Ok.seq ?_
  refine Ok.region Try.tok ?_
  refine Ok.wk (Wk.tab (L := [(4, (.w 10 6 v1.1)), (5, (.o 39))]) (H' := [(10, .own 33 6 (List.map c_api_Job v1.2.2)), (39, .own 33 6 (List.map c_api_Job v1.2.1))]) ⟨Le.refl _, Le.refl _, True.intro⟩ ⟨⟨_, rfl, .refl _⟩, ⟨_, rfl, .refl _⟩, True.intro⟩ rfl) ?_
  refine Ok.ret ?_
  cases h
  exact (Fz.t (.cons (Fz.wm rfl) (.cons (Fz.o rfl) .nil)))

theorem wo_mend_Renew {p_l : List api_Job} {p_plan : List api_Job} {r : (List api_Job)} (h : mend_Renew p_l p_plan = some r) : POwn Try.prog 18 [(.s (List.map c_api_Job p_l)), (.s (List.map c_api_Job p_plan))] 33 6 (List.map c_api_Job r) := by
  refine pown_of_ok (n := 49) (c := (Try.f18.body.getD .skip)) Try.tok Try.func18 (by kernel_rfl) rfl rfl (Nat.le_of_ble_eq_true rfl) ?_
  unfold mend_Renew at h
  refine Ok.wk (Wk.tab (L := [(0, (.s (List.map c_api_Job p_l))), (1, (.s (List.map c_api_Job p_plan)))]) (H' := []) ⟨Le.refl _, Le.refl _, True.intro⟩ True.intro rfl) ?_
  refine Ok.seq ?_
  refine Ok.region Try.tok ?_
  refine Ok.wk (Wk.tab (L := [(0, (.s (List.map c_api_Job p_l))), (1, (.s (List.map c_api_Job p_plan)))]) (H' := []) ⟨Le.refl _, Le.refl _, True.intro⟩ True.intro rfl) ?_
  refine Ok.seq ?_
  refine Ok.region Try.tok ?_
  obtain ⟨x1, hx1, h⟩ := bindS h
  refine CallOk.own (D := 10) (wo_slices_Clone_api_Job_api_Job hx1) (LeL.refl _) rfl ?_
  refine Ok.wk (Wk.tab (L := [(0, (.s (List.map c_api_Job p_l))), (5, (.o 10))]) (H' := [(10, .own 33 6 (List.map c_api_Job x1))]) ⟨Le.refl _, Le.refl _, True.intro⟩ ⟨⟨_, rfl, .refl _⟩, True.intro⟩ rfl) ?_
  obtain ⟨v1, hv1, h⟩ := bindS h
  refine Ok.seqw ⟨Cat.tab [(5, (.o 10))], [(10, .own 33 6 (List.map c_api_Job v1))]⟩ ?_ ?_
  · refine Ok.seq ?_
    refine Ok.region Try.tok ?_
    refine ⟨_, List.length_map _, fun _ => ?_⟩
    refine Ok.wk (Wk.tab (L := [(0, (.s (List.map c_api_Job p_l))), (5, (.o 10)), (11, (.o 10)), (12, (vi ((x1.length : Int)))), (13, (vi (0)))]) (H' := [(10, .own 33 6 (List.map c_api_Job x1))]) ⟨Le.refl _, Le.refl _, Le.refl _, Le.refl _, Le.refl _, True.intro⟩ ⟨⟨_, rfl, .refl _⟩, True.intro⟩ rfl) ?_
    refine Ok.block ?_
    refine Ok.loop (fun (s1 : Int × (List api_Job)) => ⟨Cat.tab [(0, (.s (List.map c_api_Job p_l))), (5, (.o 10)), (11, (.o 10)), (12, (vi ((x1.length : Int)))), (13, (vi s1.1))], [(10, .own 33 6 (List.map c_api_Job s1.2))]⟩) (mend_Renew_B1 x1 p_l) (s0 := (0, x1)) hv1 (Wk.tab ⟨Le.refl _, Le.refl _, Le.refl _, Le.refl _, Le.refl _, True.intro⟩ ⟨⟨_, rfl, .refl _⟩, True.intro⟩ rfl) ?_
    intro s1 y1 hB1 hy1
    unfold mend_Renew_B1 at hB1
    refine Ok.seq ?_
    refine Ok.region Try.tok ?_
    refine Ok.wk (Wk.tab (L := [(0, (.s (List.map c_api_Job p_l))), (5, (.o 10)), (11, (.o 10)), (12, (vi ((x1.length : Int)))), (13, (vi s1.1)), (14, (vb ((decide (s1.1 < (x1.length : Int))))))]) (H' := [(10, .own 33 6 (List.map c_api_Job s1.2))]) ⟨Le.refl _, Le.refl _, Le.refl _, Le.refl _, Le.refl _, Le.refl _, True.intro⟩ ⟨⟨_, rfl, .refl _⟩, True.intro⟩ rfl) ?_
    refine Ok.seq ?_
    refine Ok.cond (d := 14) (b := (decide (s1.1 < (x1.length : Int)))) rfl hB1 (fun hb hB1 => ?_) fun hb hB1 => ?_
    · refine Ok.skip ?_
      obtain ⟨v2, hv2, hB1⟩ := bindS hB1
      refine Ok.seqw ⟨Cat.tab [(0, (.s (List.map c_api_Job p_l))), (5, (.o 10)), (11, (.o 10)), (12, (vi ((x1.length : Int)))), (13, (vi s1.1))], [(10, .own 33 6 (List.map c_api_Job v2))]⟩ ?_ ?_
      · refine Ok.block ?_
        refine Ok.seq ?_
        refine Ok.region Try.tok ?_
        obtain ⟨x2, hx2, hv2⟩ := bindS hv2
        refine ⟨_, idx_nat hx2, idx_ltm hx2, ⟨_, idx_row hx2, rfl, _, rfl, ⟨_, rfl, ?_⟩⟩⟩
        refine Ok.wk (Wk.tab (L := [(0, (.s (List.map c_api_Job p_l))), (5, (.o 10)), (6, (vi s1.1)), (7, (.b 7 0)), (11, (.o 10)), (12, (vi ((x1.length : Int)))), (13, (vi s1.1))]) (H' := [(10, .own 33 6 (List.map c_api_Job s1.2)), (7, .box [(vi x2.Id), (vi x2.Ver), (vi x2.From), (vi x2.To), (vi x2.Have), (vi x2.Left)])]) ⟨Le.refl _, Le.refl _, Le.refl _, Le.refl _, Le.refl _, Le.refl _, Le.refl _, True.intro⟩ ⟨⟨_, rfl, .refl _⟩, ⟨_, rfl, .refl _⟩, True.intro⟩ rfl) ?_
        refine Ok.seq ?_
        refine Ok.region Try.tok ?_
        obtain ⟨x3, hx3, hv2⟩ := bindS hv2
        refine ⟨_, rfl, ?_⟩
        refine CallOk.call (w_mend_of hx3) (LeL.refl _) ?_
        obtain ⟨x4, hx4, hv2⟩ := bindS hv2
        refine CallOk.call (w_slices_IndexFunc_api_Job_api_Job__mend_spot_is hx4) (LeL.refl _) ?_
        refine Ok.wk (Wk.tab (L := [(0, (.s (List.map c_api_Job p_l))), (5, (.o 10)), (6, (vi s1.1)), (7, (.b 7 0)), (8, (vi x4)), (11, (.o 10)), (12, (vi ((x1.length : Int)))), (13, (vi s1.1))]) (H' := [(10, .own 33 6 (List.map c_api_Job s1.2)), (7, .box [(vi x2.Id), (vi x2.Ver), (vi x2.From), (vi x2.To), (vi x2.Have), (vi x2.Left)])]) ⟨Le.refl _, Le.refl _, Le.refl _, Le.refl _, Le.refl _, Le.refl _, Le.refl _, Le.refl _, True.intro⟩ ⟨⟨_, rfl, .refl _⟩, ⟨_, rfl, .refl _⟩, True.intro⟩ rfl) ?_
        obtain ⟨v3, hv3, hv2⟩ := bindS hv2
        refine Ok.seqw ⟨Cat.tab [(0, (.s (List.map c_api_Job p_l))), (5, (.o 10)), (6, (vi s1.1)), (7, (.b 7 0)), (8, (vi x4)), (11, (.o 10)), (12, (vi ((x1.length : Int)))), (13, (vi s1.1)), (34, (vb v3))], [(10, .own 33 6 (List.map c_api_Job s1.2)), (7, .box [(vi x2.Id), (vi x2.Ver), (vi x2.From), (vi x2.To), (vi x2.Have), (vi x2.Left)])]⟩ ?_ ?_
        · refine Ok.draw (m := 12) Try.tok Try.mixed (by kernel_rfl) ?_
          refine ⟨_, rfl, ⟨_, rfl, ⟨_, rfl, ?_⟩⟩⟩
          obtain ⟨c1, hg1, hv3⟩ := bindS hv3
          refine Br.ite hg1 (fun hb hg1 => ?_) fun hb hg1 => ?_
          · obtain ⟨x5, hx5, hg1⟩ := bindS hg1
            refine ⟨_, rfl, ⟨_, rfl, ⟨_, ⟨_, idx_nat hx5, _, idx_row hx5, rfl⟩, ⟨_, rfl, ⟨_, ⟨_, rfl, rfl⟩, ⟨_, rfl, ⟨_, ⟨_, rfl, rfl⟩, ⟨_, rfl, ?_⟩⟩⟩⟩⟩⟩⟩⟩
            cases hg1
            refine ⟨_, rfl, ?_⟩
            cases hv3
            exact Wk.tab ⟨Le.refl _, Le.refl _, Le.refl _, Le.refl _, Le.refl _, Le.refl _, Le.refl _, Le.refl _, Le.refl _, True.intro⟩ ⟨⟨_, rfl, .refl _⟩, ⟨_, rfl, .refl _⟩, True.intro⟩ rfl
          · cases hg1
            refine ⟨_, rfl, ?_⟩
            cases hv3
            exact Wk.tab ⟨Le.refl _, Le.refl _, Le.refl _, Le.refl _, Le.refl _, Le.refl _, Le.refl _, Le.refl _, Le.refl _, True.intro⟩ ⟨⟨_, rfl, .refl _⟩, ⟨_, rfl, .refl _⟩, True.intro⟩ rfl
        refine Ok.cond (d := 34) (b := v3) rfl hv2 (fun hb hv2 => ?_) fun hb hv2 => ?_
        · refine Ok.draw (m := 12) Try.tok Try.mixed (by kernel_rfl) ?_
          obtain ⟨x6, hx6, hv2⟩ := bindS hv2
          obtain ⟨x7, hx7, hv2⟩ := bindS hv2
          refine ⟨_, rfl, ⟨_, rfl, ⟨_, rfl, ⟨_, ⟨_, rfl, rfl⟩, ⟨_, rfl, ⟨_, rfl, ⟨_, ⟨_, idx_nat hx6, _, idx_row hx6, rfl⟩, ⟨_, rfl, ⟨_, ⟨_, rfl, rfl⟩, ⟨_, ⟨_, rfl, rfl⟩, ⟨_, ⟨_, idx_nat hx7, idx_ltm hx7, rfl⟩, ⟨_, rfl, ⟨_, idx_row hx7, rfl, _, rfl, _, set_row (f := c_api_Job) (x := (⟨x7.Id, x7.Ver, x7.From, x7.To, x7.Have, (min x2.Left x6.Left)⟩ : api_Job)), ?_⟩⟩⟩⟩⟩⟩⟩⟩⟩⟩⟩⟩⟩
          cases hv2
          exact Wk.tab ⟨Le.refl _, Le.refl _, Le.refl _, Le.refl _, Le.refl _, True.intro⟩ ⟨⟨_, rfl, .refl _⟩, True.intro⟩ rfl
        · refine Ok.skip ?_
          cases hv2
          exact Wk.tab ⟨Le.refl _, Le.refl _, Le.refl _, Le.refl _, Le.refl _, True.intro⟩ ⟨⟨_, rfl, .refl _⟩, True.intro⟩ rfl
      refine Ok.region Try.tok ?_
      obtain ⟨hc1, hB1⟩ := chk_some hB1
      refine (Or.inl ⟨hc1, ?_⟩)
      exact ⟨_, (Option.some.inj hB1).symm, Wk.tab ⟨Le.refl _, Le.refl _, Le.refl _, Le.refl _, Le.refl _, True.intro⟩ ⟨⟨_, rfl, .refl _⟩, True.intro⟩ rfl⟩
    · refine Ok.exit ?_
      have hB1 := out_ret hB1 hy1
      cases hB1
      exact Wk.tab ⟨Le.refl _, True.intro⟩ ⟨⟨_, rfl, .refl _⟩, True.intro⟩ rfl
  refine Ok.seq ?_
  refine Ok.region Try.tok ?_
  refine Ok.wk (Wk.tab (L := [(4, (.o 10))]) (H' := [(10, .own 33 6 (List.map c_api_Job v1))]) ⟨Le.refl _, True.intro⟩ ⟨⟨_, rfl, .refl _⟩, True.intro⟩ rfl) ?_
  refine Ok.ret ?_
  cases h
  exact (.inr ⟨_, rfl, rfl⟩)
theorem w_mend_Renew {p_l : List api_Job} {p_plan : List api_Job} {r : (List api_Job)} (h : mend_Renew p_l p_plan = some r) : Pure Try.prog 18 [(.s (List.map c_api_Job p_l)), (.s (List.map c_api_Job p_plan))] (.s (List.map c_api_Job r)) := (wo_mend_Renew h).pure

theorem w_ref27_SameJobs {p_a : List api_Job} {p_b : List api_Job} {r : Bool} (h : ref27_SameJobs p_a p_b = some r) : Pure Try.prog 16 [(.s (List.map c_api_Job p_a)), (.s (List.map c_api_Job p_b))] (vb r) := by
  refine pure_of_ok (n := 26) (c := (Try.f16.body.getD .skip)) Try.tok Try.func16 (by kernel_rfl) rfl rfl (Nat.le_of_ble_eq_true rfl) ?_
  unfold ref27_SameJobs at h
  refine Ok.wk (Wk.tab (L := [(0, (.s (List.map c_api_Job p_a))), (1, (.s (List.map c_api_Job p_b)))]) (H' := []) ⟨Le.refl _, Le.refl _, True.intro⟩ True.intro rfl) ?_
  refine Ok.seq ?_
  refine Ok.region Try.tok ?_
  refine Ok.wk (Wk.tab (L := [(0, (.s (List.map c_api_Job p_a))), (1, (.s (List.map c_api_Job p_b)))]) (H' := []) ⟨Le.refl _, Le.refl _, True.intro⟩ True.intro rfl) ?_
  refine Ok.seq ?_
  refine Ok.seq ?_
  refine Ok.region Try.tok ?_
  refine ⟨_, List.length_map _, fun _ => ⟨_, List.length_map _, fun _ => ?_⟩⟩
  refine Ok.wk (Wk.tab (L := [(0, (.s (List.map c_api_Job p_a))), (1, (.s (List.map c_api_Job p_b))), (10, (vb (((p_a.length : Int) != (p_b.length : Int)))))]) (H' := []) ⟨Le.refl _, Le.refl _, Le.refl _, True.intro⟩ True.intro rfl) ?_
  refine Ok.cond (d := 10) (b := ((p_a.length : Int) != (p_b.length : Int))) rfl h (fun hb h => ?_) fun hb h => ?_
  · refine Ok.seq ?_
    refine Ok.region Try.tok ?_
    refine Ok.wk (Wk.tab (L := [(4, (vb false))]) (H' := []) ⟨Le.refl _, True.intro⟩ True.intro rfl) ?_
    refine Ok.ret ?_
    cases h
    exact Fz.v
  · refine Ok.skip ?_
    refine Ok.seqj (fun v1 => ⟨Cat.tab [], []⟩) (fun v1 => ref27_SameJobs_J1 v1 = some r) ?_ ?_
    · refine Ok.seq ?_
      refine Ok.region Try.tok ?_
      refine Ok.wk (Wk.tab (L := [(0, (.s (List.map c_api_Job p_a))), (1, (.s (List.map c_api_Job p_b))), (5, (vi (0)))]) (H' := []) ⟨Le.refl _, Le.refl _, Le.refl _, True.intro⟩ True.intro rfl) ?_
      refine Ok.block ?_
      refine Ok.loop (fun (s1 : Int) => ⟨Cat.tab [(0, (.s (List.map c_api_Job p_a))), (1, (.s (List.map c_api_Job p_b))), (5, (vi s1))], []⟩) (ref27_SameJobs_B1 p_a p_b) (s0 := 0) h (Wk.tab ⟨Le.refl _, Le.refl _, Le.refl _, True.intro⟩ True.intro rfl) ?_
      intro s1 y1 hB1 hy1
      unfold ref27_SameJobs_B1 at hB1
      refine Ok.seq ?_
      refine Ok.seq ?_
      refine Ok.region Try.tok ?_
      refine ⟨_, List.length_map _, fun _ => ?_⟩
      refine Ok.wk (Wk.tab (L := [(0, (.s (List.map c_api_Job p_a))), (1, (.s (List.map c_api_Job p_b))), (5, (vi s1)), (14, (vb ((decide (s1 < (p_a.length : Int))))))]) (H' := []) ⟨Le.refl _, Le.refl _, Le.refl _, Le.refl _, True.intro⟩ True.intro rfl) ?_
      refine Ok.cond (d := 14) (b := (decide (s1 < (p_a.length : Int)))) rfl hB1 (fun hb hB1 => ?_) fun hb hB1 => ?_
      · refine Ok.skip ?_
        refine Ok.seq ?_
        refine Ok.block ?_
        refine Ok.seq ?_
        refine Ok.draw (m := 9) Try.tok Try.mixed (by kernel_rfl) ?_
        obtain ⟨x1, hx1, hB1⟩ := bindS hB1
        obtain ⟨x2, hx2, hB1⟩ := bindS hB1
        refine ⟨_, rfl, ⟨_, rfl, ⟨_, ⟨_, idx_nat hx1, _, idx_row hx1, rfl⟩, ⟨_, ⟨_, rfl, rfl⟩, ⟨_, rfl, ⟨_, rfl, ⟨_, ⟨_, idx_nat hx2, _, idx_row hx2, rfl⟩, ⟨_, ⟨_, rfl, rfl⟩, ⟨_, ⟨[.int .i64, .int .i64, .int .i64, .int .i64, .int .i64, .int .i64], by kernel_rfl, rfl⟩, ?_⟩⟩⟩⟩⟩⟩⟩⟩⟩
        refine Ok.wk (Wk.tab (L := [(0, (.s (List.map c_api_Job p_a))), (1, (.s (List.map c_api_Job p_b))), (5, (vi s1)), (25, (vb ((!(x1.Id == x2.Id && (x1.Ver == x2.Ver && (x1.From == x2.From && (x1.To == x2.To && (x1.Have == x2.Have && (x1.Left == x2.Left && true))))))))))]) (H' := []) ⟨Le.refl _, Le.refl _, Le.refl _, Le.refl _, True.intro⟩ True.intro rfl) ?_
        refine Ok.cond (d := 25) (b := (!(x1.Id == x2.Id && (x1.Ver == x2.Ver && (x1.From == x2.From && (x1.To == x2.To && (x1.Have == x2.Have && (x1.Left == x2.Left && true)))))))) rfl hB1 (fun hb hB1 => ?_) fun hb hB1 => ?_
        · refine Ok.seq ?_
          refine Ok.region Try.tok ?_
          refine Ok.wk (Wk.tab (L := [(4, (vb false))]) (H' := []) ⟨Le.refl _, True.intro⟩ True.intro rfl) ?_
          refine Ok.ret ?_
          have hB1 := out_ret hB1 hy1
          cases hB1
          exact Fz.v
        · refine Ok.skip ?_
          refine Ok.region Try.tok ?_
          obtain ⟨hc1, hB1⟩ := chk_some hB1
          refine (Or.inl ⟨hc1, ?_⟩)
          exact ⟨_, (Option.some.inj hB1).symm, Wk.tab ⟨Le.refl _, Le.refl _, Le.refl _, True.intro⟩ True.intro rfl⟩
      · refine Ok.exit ?_
        have hB1 := out_ret hB1 hy1
        exact ⟨_, hB1, Wk.tab True.intro True.intro rfl⟩
    intro v1 h
    unfold ref27_SameJobs_J1 at h
    refine Ok.seq ?_
    refine Ok.region Try.tok ?_
    refine Ok.wk (Wk.tab (L := [(4, (vb true))]) (H' := []) ⟨Le.refl _, True.intro⟩ True.intro rfl) ?_
    refine Ok.ret ?_
    cases h
    exact Fz.v

theorem w_mend_Steps {p_l : List api_Job} {p_budget : Int} {r : Int} (h : mend_Steps p_l p_budget = some r) : Pure Try.prog 20 [(.s (List.map c_api_Job p_l)), (vi p_budget)] (vi r) := by
  refine pure_of_ok (n := 30) (c := (Try.f20.body.getD .skip)) Try.tok Try.func20 (by kernel_rfl) rfl rfl (Nat.le_of_ble_eq_true rfl) ?_
  unfold mend_Steps at h
  refine Ok.wk (Wk.tab (L := [(0, (.s (List.map c_api_Job p_l))), (1, (vi p_budget))]) (H' := []) ⟨Le.refl _, Le.refl _, True.intro⟩ True.intro rfl) ?_
  refine Ok.seq ?_
  refine Ok.region Try.tok ?_
  refine Ok.wk (Wk.tab (L := [(0, (.s (List.map c_api_Job p_l))), (1, (vi p_budget))]) (H' := []) ⟨Le.refl _, Le.refl _, True.intro⟩ True.intro rfl) ?_
  refine Ok.seq ?_
  refine Ok.region Try.tok ?_
  refine Ok.wk (Wk.tab (L := [(0, (.s (List.map c_api_Job p_l))), (1, (vi p_budget)), (5, (vi (0)))]) (H' := []) ⟨Le.refl _, Le.refl _, Le.refl _, True.intro⟩ True.intro rfl) ?_
  obtain ⟨v1, hv1, h⟩ := bindS h
  refine Ok.seqw ⟨Cat.tab [(1, (vi p_budget)), (5, (vi v1))], []⟩ ?_ ?_
  · refine Ok.seq ?_
    refine Ok.region Try.tok ?_
    refine ⟨_, List.length_map _, fun _ => ?_⟩
    refine Ok.wk (Wk.tab (L := [(1, (vi p_budget)), (5, (vi (0))), (8, (.s (List.map c_api_Job p_l))), (9, (vi ((p_l.length : Int)))), (10, (vi (0)))]) (H' := []) ⟨Le.refl _, Le.refl _, Le.refl _, Le.refl _, Le.refl _, True.intro⟩ True.intro rfl) ?_
    refine Ok.block ?_
    refine Ok.loop (fun (s1 : Int × Int) => ⟨Cat.tab [(1, (vi p_budget)), (5, (vi s1.1)), (8, (.s (List.map c_api_Job p_l))), (9, (vi ((p_l.length : Int)))), (10, (vi s1.2))], []⟩) (mend_Steps_B1 p_l) (s0 := (0, 0)) hv1 (Wk.tab ⟨Le.refl _, Le.refl _, Le.refl _, Le.refl _, Le.refl _, True.intro⟩ True.intro rfl) ?_
    intro s1 y1 hB1 hy1
    unfold mend_Steps_B1 at hB1
    refine Ok.seq ?_
    refine Ok.region Try.tok ?_
    refine Ok.wk (Wk.tab (L := [(1, (vi p_budget)), (5, (vi s1.1)), (8, (.s (List.map c_api_Job p_l))), (9, (vi ((p_l.length : Int)))), (10, (vi s1.2)), (11, (vb ((decide (s1.2 < (p_l.length : Int))))))]) (H' := []) ⟨Le.refl _, Le.refl _, Le.refl _, Le.refl _, Le.refl _, Le.refl _, True.intro⟩ True.intro rfl) ?_
    refine Ok.seq ?_
    refine Ok.cond (d := 11) (b := (decide (s1.2 < (p_l.length : Int)))) rfl hB1 (fun hb hB1 => ?_) fun hb hB1 => ?_
    · refine Ok.skip ?_
      refine Ok.seq ?_
      refine Ok.block ?_
      refine Ok.seq ?_
      refine Ok.region Try.tok ?_
      obtain ⟨x1, hx1, hB1⟩ := bindS hB1
      refine ⟨_, idx_nat hx1, _, idx_row hx1, ⟨_, rfl, ⟨_, rfl, ?_⟩⟩⟩
      refine Ok.wk (Wk.tab (L := [(1, (vi p_budget)), (5, (vi s1.1)), (7, (.b 7 0)), (8, (.s (List.map c_api_Job p_l))), (9, (vi ((p_l.length : Int)))), (10, (vi s1.2))]) (H' := [(7, .box [(vi x1.Id), (vi x1.Ver), (vi x1.From), (vi x1.To), (vi x1.Have), (vi x1.Left)])]) ⟨Le.refl _, Le.refl _, Le.refl _, Le.refl _, Le.refl _, Le.refl _, True.intro⟩ ⟨⟨_, rfl, .refl _⟩, True.intro⟩ rfl) ?_
      refine Ok.region Try.tok ?_
      obtain ⟨hc1, hB1⟩ := chk_some hB1
      refine ⟨_, rfl, (Or.inl ⟨hc1, ?_⟩)⟩
      refine Ok.wk (Wk.tab (L := [(1, (vi p_budget)), (5, (vi ((s1.1 + x1.Left)))), (8, (.s (List.map c_api_Job p_l))), (9, (vi ((p_l.length : Int)))), (10, (vi s1.2))]) (H' := []) ⟨Le.refl _, Le.refl _, Le.refl _, Le.refl _, Le.refl _, True.intro⟩ True.intro rfl) ?_
      refine Ok.region Try.tok ?_
      obtain ⟨hc2, hB1⟩ := chk_some hB1
      refine (Or.inl ⟨hc2, ?_⟩)
      exact ⟨_, (Option.some.inj hB1).symm, Wk.tab ⟨Le.refl _, Le.refl _, Le.refl _, Le.refl _, Le.refl _, True.intro⟩ True.intro rfl⟩
    · refine Ok.exit ?_
      have hB1 := out_ret hB1 hy1
      cases hB1
      exact Wk.tab ⟨Le.refl _, Le.refl _, True.intro⟩ True.intro rfl
  refine Ok.seq ?_
  refine Ok.block ?_
  refine Ok.seq ?_
  refine Ok.region Try.tok ?_
  refine Ok.wk (Wk.tab (L := [(1, (vi p_budget)), (5, (vi v1)), (19, (vb ((v1 == 0))))]) (H' := []) ⟨Le.refl _, Le.refl _, Le.refl _, True.intro⟩ True.intro rfl) ?_
  refine Ok.cond (d := 19) (b := (v1 == 0)) rfl h (fun hb h => ?_) fun hb h => ?_
  · refine Ok.seq ?_
    refine Ok.region Try.tok ?_
    refine Ok.wk (Wk.tab (L := [(4, (vi (0)))]) (H' := []) ⟨Le.refl _, True.intro⟩ True.intro rfl) ?_
    refine Ok.ret ?_
    cases h
    exact Fz.v
  · refine Ok.seq ?_
    refine Ok.region Try.tok ?_
    refine Ok.wk (Wk.tab (L := [(1, (vi p_budget)), (5, (vi v1)), (22, (vb ((decide (p_budget < 1)))))]) (H' := []) ⟨Le.refl _, Le.refl _, Le.refl _, True.intro⟩ True.intro rfl) ?_
    refine Ok.cond (d := 22) (b := (decide (p_budget < 1))) rfl h (fun hb h => ?_) fun hb h => ?_
    · refine Ok.seq ?_
      refine Ok.region Try.tok ?_
      refine Ok.wk (Wk.tab (L := [(4, (vi ((-1))))]) (H' := []) ⟨Le.refl _, True.intro⟩ True.intro rfl) ?_
      refine Ok.ret ?_
      cases h
      exact Fz.v
    · refine Ok.skip ?_
      refine Ok.seq ?_
      refine Ok.region Try.tok ?_
      obtain ⟨hc3, h⟩ := chk_some h
      obtain ⟨hc4, h⟩ := chk_some h
      obtain ⟨hc5, h⟩ := chk_some h
      refine (Or.inl ⟨hc3, ⟨hc4, _, rfl, (Or.inl ⟨hc5, ?_⟩)⟩⟩)
      refine Ok.wk (Wk.tab (L := [(4, (vi ((1 + (quoK .i64 ((v1 - 1)) p_budget)))))]) (H' := []) ⟨Le.refl _, True.intro⟩ True.intro rfl) ?_
      refine Ok.ret ?_
      cases h
      exact Fz.v

theorem w_mend_Right {p_l : List api_Job} {r : Bool} (h : mend_Right p_l = some r) : Pure Try.prog 14 [(.s (List.map c_api_Job p_l))] (vb r) := by
  refine pure_of_ok (n := 39) (c := (Try.f14.body.getD .skip)) Try.tok Try.func14 (by kernel_rfl) rfl rfl (Nat.le_of_ble_eq_true rfl) ?_
  unfold mend_Right at h
  refine Ok.wk (Wk.tab (L := [(0, (.s (List.map c_api_Job p_l)))]) (H' := []) ⟨Le.refl _, True.intro⟩ True.intro rfl) ?_
  refine Ok.seq ?_
  refine Ok.region Try.tok ?_
  refine Ok.wk (Wk.tab (L := [(0, (.s (List.map c_api_Job p_l)))]) (H' := []) ⟨Le.refl _, True.intro⟩ True.intro rfl) ?_
  refine Ok.seqj (fun v1 => ⟨Cat.tab [], []⟩) (fun v1 => mend_Right_J1 v1 = some r) ?_ ?_
  · refine Ok.seq ?_
    refine Ok.region Try.tok ?_
    refine ⟨_, List.length_map _, fun _ => ?_⟩
    refine Ok.wk (Wk.tab (L := [(0, (.s (List.map c_api_Job p_l))), (5, (.s (List.map c_api_Job p_l))), (6, (vi ((p_l.length : Int)))), (7, (vi (0)))]) (H' := []) ⟨Le.refl _, Le.refl _, Le.refl _, Le.refl _, True.intro⟩ True.intro rfl) ?_
    refine Ok.block ?_
    refine Ok.loop (fun (s1 : Int) => ⟨Cat.tab [(0, (.s (List.map c_api_Job p_l))), (5, (.s (List.map c_api_Job p_l))), (6, (vi ((p_l.length : Int)))), (7, (vi s1))], []⟩) (mend_Right_B1 p_l) (s0 := 0) h (Wk.tab ⟨Le.refl _, Le.refl _, Le.refl _, Le.refl _, True.intro⟩ True.intro rfl) ?_
    intro s1 y1 hB1 hy1
    unfold mend_Right_B1 at hB1
    refine Ok.seq ?_
    refine Ok.region Try.tok ?_
    refine Ok.wk (Wk.tab (L := [(0, (.s (List.map c_api_Job p_l))), (5, (.s (List.map c_api_Job p_l))), (6, (vi ((p_l.length : Int)))), (7, (vi s1)), (8, (vb ((decide (s1 < (p_l.length : Int))))))]) (H' := []) ⟨Le.refl _, Le.refl _, Le.refl _, Le.refl _, Le.refl _, True.intro⟩ True.intro rfl) ?_
    refine Ok.seq ?_
    refine Ok.cond (d := 8) (b := (decide (s1 < (p_l.length : Int)))) rfl hB1 (fun hb hB1 => ?_) fun hb hB1 => ?_
    · refine Ok.skip ?_
      refine Ok.seq ?_
      refine Ok.block ?_
      refine Ok.seq ?_
      refine Ok.region Try.tok ?_
      obtain ⟨x1, hx1, hB1⟩ := bindS hB1
      refine ⟨_, idx_nat hx1, _, idx_row hx1, ⟨_, rfl, ⟨_, rfl, ?_⟩⟩⟩
      refine Ok.wk (Wk.tab (L := [(0, (.s (List.map c_api_Job p_l))), (3, (vi s1)), (4, (.b 4 0)), (5, (.s (List.map c_api_Job p_l))), (6, (vi ((p_l.length : Int)))), (7, (vi s1))]) (H' := [(4, .box [(vi x1.Id), (vi x1.Ver), (vi x1.From), (vi x1.To), (vi x1.Have), (vi x1.Left)])]) ⟨Le.refl _, Le.refl _, Le.refl _, Le.refl _, Le.refl _, Le.refl _, True.intro⟩ ⟨⟨_, rfl, .refl _⟩, True.intro⟩ rfl) ?_
      obtain ⟨v2, hv2, hB1⟩ := bindS hB1
      refine Ok.seqw ⟨Cat.tab [(0, (.s (List.map c_api_Job p_l))), (5, (.s (List.map c_api_Job p_l))), (6, (vi ((p_l.length : Int)))), (7, (vi s1)), (37, (vb v2))], []⟩ ?_ ?_
      · refine Ok.draw (m := 26) Try.tok Try.mixed (by kernel_rfl) ?_
        obtain ⟨x2, hx2, hv2⟩ := bindS hv2
        refine ⟨_, ⟨_, rfl, rfl⟩, ⟨_, ⟨_, .of_pure (w_mend_may hx2) (LeL.refl _), rfl⟩, ⟨_, rfl, ⟨_, rfl, ?_⟩⟩⟩⟩
        obtain ⟨c1, hg1, hv2⟩ := bindS hv2
        refine Br.itf hg1 (fun hb hg1 => ?_) fun hb hg1 => ?_
        · cases hg1
          refine ⟨_, rfl, ?_⟩
          refine ⟨_, rfl, ?_⟩
          obtain ⟨c3, hg2, hv2⟩ := bindS hv2
          replace hg2 := iteT hg2
          cases hg2
          refine ⟨_, rfl, ?_⟩
          cases hv2
          exact Wk.tab ⟨Le.refl _, Le.refl _, Le.refl _, Le.refl _, Le.refl _, True.intro⟩ True.intro rfl
        · obtain ⟨hc1, hg1⟩ := chk_some hg1
          obtain ⟨x3, hx3, hg1⟩ := bindS hg1
          obtain ⟨x4, hx4, hg1⟩ := bindS hg1
          refine ⟨_, rfl, ⟨_, rfl, ⟨_, ⟨_, sl_nat hc1.1, Nat.zero_le _, sl_len hc1, rowsK (f := c_api_Job) (K := 6) (fun _ => rfl) p_l, _, sl_take _ _ _, rfl⟩, ⟨_, ⟨_, rfl, rfl⟩, ⟨_, ⟨_, .of_pure (w_mend_of hx3) (LeL.refl _), rfl⟩, ⟨_, rfl, ⟨_, ⟨_, .of_pure (w_slices_ContainsFunc_api_Job_api_Job__mend_spot_is hx4) (LeL.refl _), rfl⟩, ?_⟩⟩⟩⟩⟩⟩⟩
          cases hg1
          refine ⟨_, rfl, ?_⟩
          refine ⟨_, rfl, ?_⟩
          obtain ⟨c3, hg3, hv2⟩ := bindS hv2
          refine Br.itf hg3 (fun hb hg3 => ?_) fun hb hg3 => ?_
          · cases hg3
            refine ⟨_, rfl, ?_⟩
            cases hv2
            exact Wk.tab ⟨Le.refl _, Le.refl _, Le.refl _, Le.refl _, Le.refl _, True.intro⟩ True.intro rfl
          · refine ⟨_, rfl, ⟨_, rfl, ⟨_, rfl, ?_⟩⟩⟩
            obtain ⟨c2, hg4, hg3⟩ := bindS hg3
            refine Br.ite hg4 (fun hb hg4 => ?_) fun hb hg4 => ?_
            · obtain ⟨hc2, hg4⟩ := chk_some hg4
              obtain ⟨x5, hx5, hg4⟩ := bindS hg4
              obtain ⟨x6, hx6, hg4⟩ := bindS hg4
              refine ⟨_, rfl, ⟨_, rfl, ⟨_, (Or.inl ⟨hc2, rfl⟩), ⟨_, ⟨_, idx_nat hx5, _, idx_row hx5, rfl⟩, ⟨_, ⟨_, rfl, rfl⟩, ⟨_, ⟨_, rfl, rfl⟩, ⟨_, ⟨_, .of_pure (w_mend_against hx6) (LeL.refl _), rfl⟩, ⟨_, rfl, ?_⟩⟩⟩⟩⟩⟩⟩⟩
              cases hg4
              refine ⟨_, rfl, ?_⟩
              cases hg3
              refine ⟨_, rfl, ?_⟩
              cases hv2
              exact Wk.tab ⟨Le.refl _, Le.refl _, Le.refl _, Le.refl _, Le.refl _, True.intro⟩ True.intro rfl
            · cases hg4
              refine ⟨_, rfl, ?_⟩
              cases hg3
              refine ⟨_, rfl, ?_⟩
              cases hv2
              exact Wk.tab ⟨Le.refl _, Le.refl _, Le.refl _, Le.refl _, Le.refl _, True.intro⟩ True.intro rfl
      refine Ok.cond (d := 37) (b := v2) rfl hB1 (fun hb hB1 => ?_) fun hb hB1 => ?_
      · refine Ok.seq ?_
        refine Ok.region Try.tok ?_
        refine Ok.wk (Wk.tab (L := [(2, (vb false))]) (H' := []) ⟨Le.refl _, True.intro⟩ True.intro rfl) ?_
        refine Ok.ret ?_
        have hB1 := out_ret hB1 hy1
        cases hB1
        exact Fz.v
      · refine Ok.skip ?_
        refine Ok.region Try.tok ?_
        obtain ⟨hc3, hB1⟩ := chk_some hB1
        refine (Or.inl ⟨hc3, ?_⟩)
        exact ⟨_, (Option.some.inj hB1).symm, Wk.tab ⟨Le.refl _, Le.refl _, Le.refl _, Le.refl _, True.intro⟩ True.intro rfl⟩
    · refine Ok.exit ?_
      have hB1 := out_ret hB1 hy1
      exact ⟨_, hB1, Wk.tab True.intro True.intro rfl⟩
  intro v1 h
  unfold mend_Right_J1 at h
  refine Ok.seq ?_
  refine Ok.region Try.tok ?_
  refine Ok.wk (Wk.tab (L := [(2, (vb true))]) (H' := []) ⟨Le.refl _, True.intro⟩ True.intro rfl) ?_
  refine Ok.ret ?_
  cases h
  exact Fz.v

theorem w_law28_head {r : Bool} (h : law28_head = some r) : Pure Try.prog 9 [] (vb r) := by
  refine pure_of_ok (n := 69) (c := (Try.f9.body.getD .skip)) Try.tok Try.func9 (by kernel_rfl) rfl rfl (Nat.le_of_ble_eq_true rfl) ?_
  unfold law28_head at h
  refine Ok.wk (Wk.tab (L := []) (H' := []) True.intro True.intro rfl) ?_
  refine Ok.seq ?_
  refine Ok.region Try.tok ?_
  refine Ok.wk (Wk.tab (L := []) (H' := []) True.intro True.intro rfl) ?_
  refine Ok.seq ?_
  refine Ok.region Try.tok ?_
  obtain ⟨x1, hx1, h⟩ := bindS h
  refine CallOk.call (w_law28_job hx1) (LeL.refl _) ?_
  obtain ⟨x2, hx2, h⟩ := bindS h
  refine CallOk.call (w_law28_job hx2) (LeL.refl _) ?_
  obtain ⟨x3, hx3, h⟩ := bindS h
  refine CallOk.call (w_law28_job hx3) (LeL.refl _) ?_
  obtain ⟨x4, hx4, h⟩ := bindS h
  refine CallOk.call (w_law28_job hx4) (LeL.refl _) ?_
  obtain ⟨x5, hx5, h⟩ := bindS h
  refine Or.inl ?_
  refine CallOk.call (w_mend_Order hx5) (LeL.refl _) ?_
  refine Ok.wk (Wk.tab (L := [(1, (.s (List.map c_api_Job x5)))]) (H' := []) ⟨Le.refl _, True.intro⟩ True.intro rfl) ?_
  refine Ok.seq ?_
  refine Ok.region Try.tok ?_
  obtain ⟨x6, hx6, h⟩ := bindS h
  refine CallOk.call (w_mend_Step hx6) (LeL.refl _) ?_
  refine Ok.wk (Wk.tab (L := [(1, (.s (List.map c_api_Job x5))), (2, (.s (List.map c_api_Job x6.1))), (3, (.s (List.map c_api_Job x6.2)))]) (H' := []) ⟨Le.refl _, Le.refl _, Le.refl _, True.intro⟩ True.intro rfl) ?_
  refine Ok.seq ?_
  refine Ok.region Try.tok ?_
  obtain ⟨x7, hx7, h⟩ := bindS h
  refine CallOk.call (w_law28_job hx7) (LeL.refl _) ?_
  obtain ⟨x8, hx8, h⟩ := bindS h
  refine Or.inl ?_
  refine CallOk.call (w_mend_Renew hx8) (LeL.refl _) ?_
  refine Ok.wk (Wk.tab (L := [(1, (.s (List.map c_api_Job x5))), (2, (.s (List.map c_api_Job x6.1))), (3, (.s (List.map c_api_Job x6.2))), (4, (.s (List.map c_api_Job x8)))]) (H' := []) ⟨Le.refl _, Le.refl _, Le.refl _, Le.refl _, True.intro⟩ True.intro rfl) ?_
  obtain ⟨v1, hv1, h⟩ := bindS h
  refine Ok.seqw ⟨Cat.tab [(0, (vb v1))], []⟩ ?_ ?_
  · refine Ok.region Try.tok ?_
    obtain ⟨x9, hx9, hv1⟩ := bindS hv1
    refine CallOk.norm (L := [(1, (.s (List.map c_api_Job x5))), (2, (.s (List.map c_api_Job x6.1))), (3, (.s (List.map c_api_Job x6.2))), (4, (.s (List.map c_api_Job x8))), (20, (.s (List.map c_api_Job x5)))]) (H' := []) (LeL.refl _) ⟨Le.refl _, Le.refl _, Le.refl _, Le.refl _, Le.refl _, True.intro⟩ True.intro rfl (CallOk.call (w_law28_job hx9) (LeL.refl _) ?_)
    obtain ⟨x10, hx10, hv1⟩ := bindS hv1
    refine CallOk.norm (L := [(1, (.s (List.map c_api_Job x5))), (2, (.s (List.map c_api_Job x6.1))), (3, (.s (List.map c_api_Job x6.2))), (4, (.s (List.map c_api_Job x8))), (20, (.s (List.map c_api_Job x5))), (21, (.a [(vi x9.Id), (vi x9.Ver), (vi x9.From), (vi x9.To), (vi x9.Have), (vi x9.Left)]))]) (H' := []) (LeL.refl _) ⟨Le.refl _, Le.refl _, Le.refl _, Le.refl _, Le.refl _, Le.refl _, True.intro⟩ True.intro rfl (CallOk.call (w_law28_job hx10) (LeL.refl _) ?_)
    obtain ⟨x11, hx11, hv1⟩ := bindS hv1
    refine Or.inl ?_
    refine CallOk.norm (L := [(1, (.s (List.map c_api_Job x5))), (2, (.s (List.map c_api_Job x6.1))), (3, (.s (List.map c_api_Job x6.2))), (4, (.s (List.map c_api_Job x8))), (20, (.s (List.map c_api_Job x5))), (23, (.s (List.map c_api_Job ([x9, x10]))))]) (H' := []) (LeL.refl _) ⟨Le.refl _, Le.refl _, Le.refl _, Le.refl _, Le.refl _, Le.refl _, True.intro⟩ True.intro rfl (CallOk.call (w_ref27_SameJobs hx11) (LeL.refl _) ?_)
    obtain ⟨c1, hg1, hv1⟩ := bindS hv1
    refine Br.ite hg1 (fun hb hg1 => ?_) fun hb hg1 => ?_
    · obtain ⟨x12, hx12, hg1⟩ := bindS hg1
      refine CallOk.norm (L := [(1, (.s (List.map c_api_Job x5))), (3, (.s (List.map c_api_Job x6.2))), (4, (.s (List.map c_api_Job x8))), (25, .v (.bool true)), (26, (.s (List.map c_api_Job x6.1)))]) (H' := []) (LeL.refl _) ⟨Le.refl _, Le.refl _, Le.refl _, Le.refl _, Le.refl _, True.intro⟩ True.intro rfl (CallOk.call (w_law28_job hx12) (LeL.refl _) ?_)
      obtain ⟨x13, hx13, hg1⟩ := bindS hg1
      refine Or.inl ?_
      refine CallOk.norm (L := [(1, (.s (List.map c_api_Job x5))), (3, (.s (List.map c_api_Job x6.2))), (4, (.s (List.map c_api_Job x8))), (25, .v (.bool true)), (26, (.s (List.map c_api_Job x6.1))), (28, (.s (List.map c_api_Job ([x12]))))]) (H' := []) (LeL.refl _) ⟨Le.refl _, Le.refl _, Le.refl _, Le.refl _, Le.refl _, Le.refl _, True.intro⟩ True.intro rfl (CallOk.call (w_ref27_SameJobs hx13) (LeL.refl _) ?_)
      cases hg1
      obtain ⟨c2, hg2, hv1⟩ := bindS hv1
      refine Br.ite hg2 (fun hb hg2 => ?_) fun hb hg2 => ?_
      · obtain ⟨x14, hx14, hg2⟩ := bindS hg2
        refine CallOk.norm (L := [(1, (.s (List.map c_api_Job x5))), (4, (.s (List.map c_api_Job x8))), (31, .v (.bool true)), (32, (.s (List.map c_api_Job x6.2)))]) (H' := []) (LeL.refl _) ⟨Le.refl _, Le.refl _, Le.refl _, Le.refl _, True.intro⟩ True.intro rfl (CallOk.call (w_law28_job hx14) (LeL.refl _) ?_)
        obtain ⟨x15, hx15, hg2⟩ := bindS hg2
        refine Or.inl ?_
        refine CallOk.norm (L := [(1, (.s (List.map c_api_Job x5))), (4, (.s (List.map c_api_Job x8))), (31, .v (.bool true)), (32, (.s (List.map c_api_Job x6.2))), (34, (.s (List.map c_api_Job ([x14]))))]) (H' := []) (LeL.refl _) ⟨Le.refl _, Le.refl _, Le.refl _, Le.refl _, Le.refl _, True.intro⟩ True.intro rfl (CallOk.call (w_ref27_SameJobs hx15) (LeL.refl _) ?_)
        cases hg2
        obtain ⟨c3, hg3, hv1⟩ := bindS hv1
        refine Br.ite hg3 (fun hb hg3 => ?_) fun hb hg3 => ?_
        · obtain ⟨x16, hx16, hg3⟩ := bindS hg3
          refine CallOk.norm (L := [(1, (.s (List.map c_api_Job x5))), (4, (.s (List.map c_api_Job x8))), (37, .v (.bool true)), (38, (.s (List.map c_api_Job x5)))]) (H' := []) (LeL.refl _) ⟨Le.refl _, Le.refl _, Le.refl _, Le.refl _, True.intro⟩ True.intro rfl (CallOk.call (w_mend_Steps hx16) (LeL.refl _) ?_)
          cases hg3
          obtain ⟨c4, hg4, hv1⟩ := bindS hv1
          refine Br.ite hg4 (fun hb hg4 => ?_) fun hb hg4 => ?_
          · obtain ⟨x17, hx17, hg4⟩ := bindS hg4
            refine CallOk.norm (L := [(1, (.s (List.map c_api_Job x5))), (4, (.s (List.map c_api_Job x8))), (42, .v (.bool true)), (43, (.s (List.map c_api_Job x5)))]) (H' := []) (LeL.refl _) ⟨Le.refl _, Le.refl _, Le.refl _, Le.refl _, True.intro⟩ True.intro rfl (CallOk.call (w_mend_Steps hx17) (LeL.refl _) ?_)
            cases hg4
            obtain ⟨c5, hg5, hv1⟩ := bindS hv1
            refine Br.ite hg5 (fun hb hg5 => ?_) fun hb hg5 => ?_
            · obtain ⟨x18, hx18, hg5⟩ := bindS hg5
              refine CallOk.norm (L := [(1, (.s (List.map c_api_Job x5))), (4, (.s (List.map c_api_Job x8))), (47, .v (.bool true))]) (H' := []) (LeL.refl _) ⟨Le.refl _, Le.refl _, Le.refl _, True.intro⟩ True.intro rfl (CallOk.call (w_mend_Steps hx18) (.cons (Le.nil) (.cons (Le.refl _) (.nil))) ?_)
              cases hg5
              obtain ⟨c6, hg6, hv1⟩ := bindS hv1
              refine Br.ite hg6 (fun hb hg6 => ?_) fun hb hg6 => ?_
              · obtain ⟨x19, hx19, hg6⟩ := bindS hg6
                refine CallOk.norm (L := [(1, (.s (List.map c_api_Job x5))), (51, .v (.bool true)), (52, (.s (List.map c_api_Job x8)))]) (H' := []) (LeL.refl _) ⟨Le.refl _, Le.refl _, Le.refl _, True.intro⟩ True.intro rfl (CallOk.call (w_law28_job hx19) (LeL.refl _) ?_)
                obtain ⟨x20, hx20, hg6⟩ := bindS hg6
                refine CallOk.norm (L := [(1, (.s (List.map c_api_Job x5))), (51, .v (.bool true)), (52, (.s (List.map c_api_Job x8))), (53, (.a [(vi x19.Id), (vi x19.Ver), (vi x19.From), (vi x19.To), (vi x19.Have), (vi x19.Left)]))]) (H' := []) (LeL.refl _) ⟨Le.refl _, Le.refl _, Le.refl _, Le.refl _, True.intro⟩ True.intro rfl (CallOk.call (w_law28_job hx20) (LeL.refl _) ?_)
                obtain ⟨x21, hx21, hg6⟩ := bindS hg6
                refine Or.inl ?_
                refine CallOk.norm (L := [(1, (.s (List.map c_api_Job x5))), (51, .v (.bool true)), (52, (.s (List.map c_api_Job x8))), (55, (.s (List.map c_api_Job ([x19, x20]))))]) (H' := []) (LeL.refl _) ⟨Le.refl _, Le.refl _, Le.refl _, Le.refl _, True.intro⟩ True.intro rfl (CallOk.call (w_ref27_SameJobs hx21) (LeL.refl _) ?_)
                cases hg6
                obtain ⟨c7, hg7, hv1⟩ := bindS hv1
                refine Br.ite hg7 (fun hb hg7 => ?_) fun hb hg7 => ?_
                · obtain ⟨x22, hx22, hg7⟩ := bindS hg7
                  refine CallOk.norm (L := [(58, .v (.bool true)), (59, (.s (List.map c_api_Job x5)))]) (H' := []) (LeL.refl _) ⟨Le.refl _, Le.refl _, True.intro⟩ True.intro rfl (CallOk.call (w_mend_Right hx22) (LeL.refl _) ?_)
                  cases hg7
                  obtain ⟨c8, hg8, hv1⟩ := bindS hv1
                  refine Br.ite hg8 (fun hb hg8 => ?_) fun hb hg8 => ?_
                  · obtain ⟨x23, hx23, hg8⟩ := bindS hg8
                    refine CallOk.norm (L := [(62, .v (.bool true))]) (H' := []) (LeL.refl _) ⟨Le.refl _, True.intro⟩ True.intro rfl (CallOk.call (w_law28_job hx23) (LeL.refl _) ?_)
                    obtain ⟨x24, hx24, hg8⟩ := bindS hg8
                    refine CallOk.norm (L := [(62, .v (.bool true)), (63, (.a [(vi x23.Id), (vi x23.Ver), (vi x23.From), (vi x23.To), (vi x23.Have), (vi x23.Left)]))]) (H' := []) (LeL.refl _) ⟨Le.refl _, Le.refl _, True.intro⟩ True.intro rfl (CallOk.call (w_law28_job hx24) (LeL.refl _) ?_)
                    obtain ⟨x25, hx25, hg8⟩ := bindS hg8
                    refine Or.inl ?_
                    refine CallOk.norm (L := [(62, .v (.bool true)), (65, (.s (List.map c_api_Job ([x23, x24]))))]) (H' := []) (LeL.refl _) ⟨Le.refl _, Le.refl _, True.intro⟩ True.intro rfl (CallOk.call (w_mend_Right hx25) (LeL.refl _) ?_)
                    cases hg8
                    cases hv1
                    exact Wk.tab ⟨Le.refl _, True.intro⟩ True.intro rfl
                  · cases hg8
                    cases hv1
                    exact Wk.tab ⟨Le.refl _, True.intro⟩ True.intro rfl
                · cases hg7
                  obtain ⟨c8, hg9, hv1⟩ := bindS hv1
                  replace hg9 := iteF hg9
                  cases hg9
                  cases hv1
                  exact Wk.tab ⟨Le.refl _, True.intro⟩ True.intro rfl
              · cases hg6
                obtain ⟨c7, hg10, hv1⟩ := bindS hv1
                replace hg10 := iteF hg10
                cases hg10
                obtain ⟨c8, hg11, hv1⟩ := bindS hv1
                replace hg11 := iteF hg11
                cases hg11
                cases hv1
                exact Wk.tab ⟨Le.refl _, True.intro⟩ True.intro rfl
            · cases hg5
              obtain ⟨c6, hg12, hv1⟩ := bindS hv1
              replace hg12 := iteF hg12
              cases hg12
              obtain ⟨c7, hg13, hv1⟩ := bindS hv1
              replace hg13 := iteF hg13
              cases hg13
              obtain ⟨c8, hg14, hv1⟩ := bindS hv1
              replace hg14 := iteF hg14
              cases hg14
              cases hv1
              exact Wk.tab ⟨Le.refl _, True.intro⟩ True.intro rfl
          · cases hg4
            obtain ⟨c5, hg15, hv1⟩ := bindS hv1
            replace hg15 := iteF hg15
            cases hg15
            obtain ⟨c6, hg16, hv1⟩ := bindS hv1
            replace hg16 := iteF hg16
            cases hg16
            obtain ⟨c7, hg17, hv1⟩ := bindS hv1
            replace hg17 := iteF hg17
            cases hg17
            obtain ⟨c8, hg18, hv1⟩ := bindS hv1
            replace hg18 := iteF hg18
            cases hg18
            cases hv1
            exact Wk.tab ⟨Le.refl _, True.intro⟩ True.intro rfl
        · cases hg3
          obtain ⟨c4, hg19, hv1⟩ := bindS hv1
          replace hg19 := iteF hg19
          cases hg19
          obtain ⟨c5, hg20, hv1⟩ := bindS hv1
          replace hg20 := iteF hg20
          cases hg20
          obtain ⟨c6, hg21, hv1⟩ := bindS hv1
          replace hg21 := iteF hg21
          cases hg21
          obtain ⟨c7, hg22, hv1⟩ := bindS hv1
          replace hg22 := iteF hg22
          cases hg22
          obtain ⟨c8, hg23, hv1⟩ := bindS hv1
          replace hg23 := iteF hg23
          cases hg23
          cases hv1
          exact Wk.tab ⟨Le.refl _, True.intro⟩ True.intro rfl
      · cases hg2
        obtain ⟨c3, hg24, hv1⟩ := bindS hv1
        replace hg24 := iteF hg24
        cases hg24
        obtain ⟨c4, hg25, hv1⟩ := bindS hv1
        replace hg25 := iteF hg25
        cases hg25
        obtain ⟨c5, hg26, hv1⟩ := bindS hv1
        replace hg26 := iteF hg26
        cases hg26
        obtain ⟨c6, hg27, hv1⟩ := bindS hv1
        replace hg27 := iteF hg27
        cases hg27
        obtain ⟨c7, hg28, hv1⟩ := bindS hv1
        replace hg28 := iteF hg28
        cases hg28
        obtain ⟨c8, hg29, hv1⟩ := bindS hv1
        replace hg29 := iteF hg29
        cases hg29
        cases hv1
        exact Wk.tab ⟨Le.refl _, True.intro⟩ True.intro rfl
    · cases hg1
      obtain ⟨c2, hg30, hv1⟩ := bindS hv1
      replace hg30 := iteF hg30
      cases hg30
      obtain ⟨c3, hg31, hv1⟩ := bindS hv1
      replace hg31 := iteF hg31
      cases hg31
      obtain ⟨c4, hg32, hv1⟩ := bindS hv1
      replace hg32 := iteF hg32
      cases hg32
      obtain ⟨c5, hg33, hv1⟩ := bindS hv1
      replace hg33 := iteF hg33
      cases hg33
      obtain ⟨c6, hg34, hv1⟩ := bindS hv1
      replace hg34 := iteF hg34
      cases hg34
      obtain ⟨c7, hg35, hv1⟩ := bindS hv1
      replace hg35 := iteF hg35
      cases hg35
      obtain ⟨c8, hg36, hv1⟩ := bindS hv1
      replace hg36 := iteF hg36
      cases hg36
      cases hv1
      exact Wk.tab ⟨Le.refl _, True.intro⟩ True.intro rfl
  refine Ok.ret ?_
  cases h
  exact Fz.v

theorem wo_ref28_Few {p_l : List api_Job} {r : (List api_Job)} (h : ref28_Few p_l = some r) : POwn Try.prog 10 [(.s (List.map c_api_Job p_l))] 33 6 (List.map c_api_Job r) := by
  refine pown_of_ok (n := 10) (c := (Try.f10.body.getD .skip)) Try.tok Try.func10 (by kernel_rfl) rfl rfl (Nat.le_of_ble_eq_true rfl) ?_
  unfold ref28_Few at h
  refine Ok.wk (Wk.tab (L := [(0, (.s (List.map c_api_Job p_l)))]) (H' := []) ⟨Le.refl _, True.intro⟩ True.intro rfl) ?_
  refine Ok.seq ?_
  refine Ok.region Try.tok ?_
  refine Ok.wk (Wk.tab (L := [(0, (.s (List.map c_api_Job p_l)))]) (H' := []) ⟨Le.refl _, True.intro⟩ True.intro rfl) ?_
  refine Ok.seq ?_
  refine Ok.region Try.tok ?_
  obtain ⟨hc1, h⟩ := chk_some h
  obtain ⟨hc2, h⟩ := chk_some h
  refine Or.inr ⟨_, List.length_map _, fun _ => ⟨_, rfl, ⟨_, sl_nat hc1.1, Nat.zero_le _, sl_len hc1, rowsK (f := c_api_Job) (K := 6) (fun _ => rfl) p_l, _, sl_take _ _ _, ⟨rowsLen_map (f := c_api_Job) (n := 6) (fun _ => rfl) ((p_l.take ((min ((p_l.length : Int)) (40))).toNat)), app_b2 (f := c_api_Job) (l := (([] : List api_Job))) (l' := ((p_l.take ((min ((p_l.length : Int)) (40))).toNat))) hc2, _, (List.map_append (f := c_api_Job) (l₁ := (([] : List api_Job))) (l₂ := ((p_l.take ((min ((p_l.length : Int)) (40))).toNat)))).symm, ?_⟩⟩⟩⟩
  refine Ok.wk (Wk.tab (L := [(2, (.o 3))]) (H' := [(3, .own 33 6 (List.map c_api_Job ((([] : List api_Job) ++ (p_l.take ((min ((p_l.length : Int)) (40))).toNat)))))]) ⟨Le.refl _, True.intro⟩ ⟨⟨_, rfl, .refl _⟩, True.intro⟩ rfl) ?_
  refine Ok.ret ?_
  cases h
  exact (.inr ⟨_, rfl, rfl⟩)
theorem w_ref28_Few {p_l : List api_Job} {r : (List api_Job)} (h : ref28_Few p_l = some r) : Pure Try.prog 10 [(.s (List.map c_api_Job p_l))] (.s (List.map c_api_Job r)) := (wo_ref28_Few h).pure

theorem w_ref28_May {p_j : api_Job} {r : Bool} (h : ref28_May p_j = some r) : Pure Try.prog 24 [(.a [(vi p_j.Id), (vi p_j.Ver), (vi p_j.From), (vi p_j.To), (vi p_j.Have), (vi p_j.Left)])] (vb r) := by
  refine pure_of_ok (n := 68) (c := (Try.f24.body.getD .skip)) Try.tok Try.func24 (by kernel_rfl) rfl rfl (Nat.le_of_ble_eq_true rfl) ?_
  unfold ref28_May at h
  refine Ok.wk (Wk.tab (L := [(0, (.a [(vi p_j.Id), (vi p_j.Ver), (vi p_j.From), (vi p_j.To), (vi p_j.Have), (vi p_j.Left)]))]) (H' := []) ⟨Le.refl _, True.intro⟩ True.intro rfl) ?_
  refine Ok.seq ?_
  refine Ok.region Try.tok ?_
  refine Ok.wk (Wk.tab (L := [(1, (.b 1 0))]) (H' := [(1, .box [(vi p_j.Id), (vi p_j.Ver), (vi p_j.From), (vi p_j.To), (vi p_j.Have), (vi p_j.Left)])]) ⟨Le.refl _, True.intro⟩ ⟨⟨_, rfl, .refl _⟩, True.intro⟩ rfl) ?_
  obtain ⟨v1, hv1, h⟩ := bindS h
  refine Ok.seqw ⟨Cat.tab [(2, (vb v1))], []⟩ ?_ ?_
  · refine Ok.region Try.tok ?_
    refine ⟨_, rfl, ?_⟩
    obtain ⟨c1, hg1, hv1⟩ := bindS hv1
    refine Br.ite hg1 (fun hb hg1 => ?_) fun hb hg1 => ?_
    · refine ⟨_, rfl, ?_⟩
      cases hg1
      obtain ⟨c2, hg2, hv1⟩ := bindS hv1
      refine Br.ite hg2 (fun hb hg2 => ?_) fun hb hg2 => ?_
      · refine ⟨_, rfl, ?_⟩
        cases hg2
        obtain ⟨c3, hg3, hv1⟩ := bindS hv1
        refine Br.ite hg3 (fun hb hg3 => ?_) fun hb hg3 => ?_
        · refine ⟨_, rfl, ?_⟩
          cases hg3
          obtain ⟨c4, hg4, hv1⟩ := bindS hv1
          refine Br.ite hg4 (fun hb hg4 => ?_) fun hb hg4 => ?_
          · refine ⟨_, rfl, ?_⟩
            cases hg4
            obtain ⟨c5, hg5, hv1⟩ := bindS hv1
            refine Br.ite hg5 (fun hb hg5 => ?_) fun hb hg5 => ?_
            · refine ⟨_, rfl, ?_⟩
              cases hg5
              obtain ⟨c6, hg6, hv1⟩ := bindS hv1
              refine Br.ite hg6 (fun hb hg6 => ?_) fun hb hg6 => ?_
              · refine ⟨_, rfl, ?_⟩
                cases hg6
                obtain ⟨c7, hg7, hv1⟩ := bindS hv1
                refine Br.ite hg7 (fun hb hg7 => ?_) fun hb hg7 => ?_
                · refine ⟨_, rfl, ?_⟩
                  cases hg7
                  obtain ⟨c8, hg8, hv1⟩ := bindS hv1
                  refine Br.ite hg8 (fun hb hg8 => ?_) fun hb hg8 => ?_
                  · refine ⟨_, rfl, ⟨_, rfl, ?_⟩⟩
                    cases hg8
                    obtain ⟨c9, hg9, hv1⟩ := bindS hv1
                    refine Br.ite hg9 (fun hb hg9 => ?_) fun hb hg9 => ?_
                    · refine ⟨_, rfl, ?_⟩
                      cases hg9
                      obtain ⟨c10, hg10, hv1⟩ := bindS hv1
                      refine Br.ite hg10 (fun hb hg10 => ?_) fun hb hg10 => ?_
                      · refine ⟨_, rfl, ?_⟩
                        cases hg10
                        obtain ⟨c11, hg11, hv1⟩ := bindS hv1
                        refine Br.ite hg11 (fun hb hg11 => ?_) fun hb hg11 => ?_
                        · refine ⟨_, rfl, ?_⟩
                          cases hg11
                          obtain ⟨c12, hg12, hv1⟩ := bindS hv1
                          refine Br.ite hg12 (fun hb hg12 => ?_) fun hb hg12 => ?_
                          · refine ⟨_, rfl, ?_⟩
                            cases hg12
                            cases hv1
                            exact Wk.tab ⟨Le.refl _, True.intro⟩ True.intro rfl
                          · cases hg12
                            cases hv1
                            exact Wk.tab ⟨Le.refl _, True.intro⟩ True.intro rfl
                        · cases hg11
                          obtain ⟨c12, hg13, hv1⟩ := bindS hv1
                          replace hg13 := iteF hg13
                          cases hg13
                          cases hv1
                          exact Wk.tab ⟨Le.refl _, True.intro⟩ True.intro rfl
                      · cases hg10
                        obtain ⟨c11, hg14, hv1⟩ := bindS hv1
                        replace hg14 := iteF hg14
                        cases hg14
                        obtain ⟨c12, hg15, hv1⟩ := bindS hv1
                        replace hg15 := iteF hg15
                        cases hg15
                        cases hv1
                        exact Wk.tab ⟨Le.refl _, True.intro⟩ True.intro rfl
                    · cases hg9
                      obtain ⟨c10, hg16, hv1⟩ := bindS hv1
                      replace hg16 := iteF hg16
                      cases hg16
                      obtain ⟨c11, hg17, hv1⟩ := bindS hv1
                      replace hg17 := iteF hg17
                      cases hg17
                      obtain ⟨c12, hg18, hv1⟩ := bindS hv1
                      replace hg18 := iteF hg18
                      cases hg18
                      cases hv1
                      exact Wk.tab ⟨Le.refl _, True.intro⟩ True.intro rfl
                  · cases hg8
                    obtain ⟨c9, hg19, hv1⟩ := bindS hv1
                    replace hg19 := iteF hg19
                    cases hg19
                    obtain ⟨c10, hg20, hv1⟩ := bindS hv1
                    replace hg20 := iteF hg20
                    cases hg20
                    obtain ⟨c11, hg21, hv1⟩ := bindS hv1
                    replace hg21 := iteF hg21
                    cases hg21
                    obtain ⟨c12, hg22, hv1⟩ := bindS hv1
                    replace hg22 := iteF hg22
                    cases hg22
                    cases hv1
                    exact Wk.tab ⟨Le.refl _, True.intro⟩ True.intro rfl
                · cases hg7
                  obtain ⟨c8, hg23, hv1⟩ := bindS hv1
                  replace hg23 := iteF hg23
                  cases hg23
                  obtain ⟨c9, hg24, hv1⟩ := bindS hv1
                  replace hg24 := iteF hg24
                  cases hg24
                  obtain ⟨c10, hg25, hv1⟩ := bindS hv1
                  replace hg25 := iteF hg25
                  cases hg25
                  obtain ⟨c11, hg26, hv1⟩ := bindS hv1
                  replace hg26 := iteF hg26
                  cases hg26
                  obtain ⟨c12, hg27, hv1⟩ := bindS hv1
                  replace hg27 := iteF hg27
                  cases hg27
                  cases hv1
                  exact Wk.tab ⟨Le.refl _, True.intro⟩ True.intro rfl
              · cases hg6
                obtain ⟨c7, hg28, hv1⟩ := bindS hv1
                replace hg28 := iteF hg28
                cases hg28
                obtain ⟨c8, hg29, hv1⟩ := bindS hv1
                replace hg29 := iteF hg29
                cases hg29
                obtain ⟨c9, hg30, hv1⟩ := bindS hv1
                replace hg30 := iteF hg30
                cases hg30
                obtain ⟨c10, hg31, hv1⟩ := bindS hv1
                replace hg31 := iteF hg31
                cases hg31
                obtain ⟨c11, hg32, hv1⟩ := bindS hv1
                replace hg32 := iteF hg32
                cases hg32
                obtain ⟨c12, hg33, hv1⟩ := bindS hv1
                replace hg33 := iteF hg33
                cases hg33
                cases hv1
                exact Wk.tab ⟨Le.refl _, True.intro⟩ True.intro rfl
            · cases hg5
              obtain ⟨c6, hg34, hv1⟩ := bindS hv1
              replace hg34 := iteF hg34
              cases hg34
              obtain ⟨c7, hg35, hv1⟩ := bindS hv1
              replace hg35 := iteF hg35
              cases hg35
              obtain ⟨c8, hg36, hv1⟩ := bindS hv1
              replace hg36 := iteF hg36
              cases hg36
              obtain ⟨c9, hg37, hv1⟩ := bindS hv1
              replace hg37 := iteF hg37
              cases hg37
              obtain ⟨c10, hg38, hv1⟩ := bindS hv1
              replace hg38 := iteF hg38
              cases hg38
              obtain ⟨c11, hg39, hv1⟩ := bindS hv1
              replace hg39 := iteF hg39
              cases hg39
              obtain ⟨c12, hg40, hv1⟩ := bindS hv1
              replace hg40 := iteF hg40
              cases hg40
              cases hv1
              exact Wk.tab ⟨Le.refl _, True.intro⟩ True.intro rfl
          · cases hg4
            obtain ⟨c5, hg41, hv1⟩ := bindS hv1
            replace hg41 := iteF hg41
            cases hg41
            obtain ⟨c6, hg42, hv1⟩ := bindS hv1
            replace hg42 := iteF hg42
            cases hg42
            obtain ⟨c7, hg43, hv1⟩ := bindS hv1
            replace hg43 := iteF hg43
            cases hg43
            obtain ⟨c8, hg44, hv1⟩ := bindS hv1
            replace hg44 := iteF hg44
            cases hg44
            obtain ⟨c9, hg45, hv1⟩ := bindS hv1
            replace hg45 := iteF hg45
            cases hg45
            obtain ⟨c10, hg46, hv1⟩ := bindS hv1
            replace hg46 := iteF hg46
            cases hg46
            obtain ⟨c11, hg47, hv1⟩ := bindS hv1
            replace hg47 := iteF hg47
            cases hg47
            obtain ⟨c12, hg48, hv1⟩ := bindS hv1
            replace hg48 := iteF hg48
            cases hg48
            cases hv1
            exact Wk.tab ⟨Le.refl _, True.intro⟩ True.intro rfl
        · cases hg3
          obtain ⟨c4, hg49, hv1⟩ := bindS hv1
          replace hg49 := iteF hg49
          cases hg49
          obtain ⟨c5, hg50, hv1⟩ := bindS hv1
          replace hg50 := iteF hg50
          cases hg50
          obtain ⟨c6, hg51, hv1⟩ := bindS hv1
          replace hg51 := iteF hg51
          cases hg51
          obtain ⟨c7, hg52, hv1⟩ := bindS hv1
          replace hg52 := iteF hg52
          cases hg52
          obtain ⟨c8, hg53, hv1⟩ := bindS hv1
          replace hg53 := iteF hg53
          cases hg53
          obtain ⟨c9, hg54, hv1⟩ := bindS hv1
          replace hg54 := iteF hg54
          cases hg54
          obtain ⟨c10, hg55, hv1⟩ := bindS hv1
          replace hg55 := iteF hg55
          cases hg55
          obtain ⟨c11, hg56, hv1⟩ := bindS hv1
          replace hg56 := iteF hg56
          cases hg56
          obtain ⟨c12, hg57, hv1⟩ := bindS hv1
          replace hg57 := iteF hg57
          cases hg57
          cases hv1
          exact Wk.tab ⟨Le.refl _, True.intro⟩ True.intro rfl
      · cases hg2
        obtain ⟨c3, hg58, hv1⟩ := bindS hv1
        replace hg58 := iteF hg58
        cases hg58
        obtain ⟨c4, hg59, hv1⟩ := bindS hv1
        replace hg59 := iteF hg59
        cases hg59
        obtain ⟨c5, hg60, hv1⟩ := bindS hv1
        replace hg60 := iteF hg60
        cases hg60
        obtain ⟨c6, hg61, hv1⟩ := bindS hv1
        replace hg61 := iteF hg61
        cases hg61
        obtain ⟨c7, hg62, hv1⟩ := bindS hv1
        replace hg62 := iteF hg62
        cases hg62
        obtain ⟨c8, hg63, hv1⟩ := bindS hv1
        replace hg63 := iteF hg63
        cases hg63
        obtain ⟨c9, hg64, hv1⟩ := bindS hv1
        replace hg64 := iteF hg64
        cases hg64
        obtain ⟨c10, hg65, hv1⟩ := bindS hv1
        replace hg65 := iteF hg65
        cases hg65
        obtain ⟨c11, hg66, hv1⟩ := bindS hv1
        replace hg66 := iteF hg66
        cases hg66
        obtain ⟨c12, hg67, hv1⟩ := bindS hv1
        replace hg67 := iteF hg67
        cases hg67
        cases hv1
        exact Wk.tab ⟨Le.refl _, True.intro⟩ True.intro rfl
    · cases hg1
      obtain ⟨c2, hg68, hv1⟩ := bindS hv1
      replace hg68 := iteF hg68
      cases hg68
      obtain ⟨c3, hg69, hv1⟩ := bindS hv1
      replace hg69 := iteF hg69
      cases hg69
      obtain ⟨c4, hg70, hv1⟩ := bindS hv1
      replace hg70 := iteF hg70
      cases hg70
      obtain ⟨c5, hg71, hv1⟩ := bindS hv1
      replace hg71 := iteF hg71
      cases hg71
      obtain ⟨c6, hg72, hv1⟩ := bindS hv1
      replace hg72 := iteF hg72
      cases hg72
      obtain ⟨c7, hg73, hv1⟩ := bindS hv1
      replace hg73 := iteF hg73
      cases hg73
      obtain ⟨c8, hg74, hv1⟩ := bindS hv1
      replace hg74 := iteF hg74
      cases hg74
      obtain ⟨c9, hg75, hv1⟩ := bindS hv1
      replace hg75 := iteF hg75
      cases hg75
      obtain ⟨c10, hg76, hv1⟩ := bindS hv1
      replace hg76 := iteF hg76
      cases hg76
      obtain ⟨c11, hg77, hv1⟩ := bindS hv1
      replace hg77 := iteF hg77
      cases hg77
      obtain ⟨c12, hg78, hv1⟩ := bindS hv1
      replace hg78 := iteF hg78
      cases hg78
      cases hv1
      exact Wk.tab ⟨Le.refl _, True.intro⟩ True.intro rfl
  refine Ok.ret ?_
  cases h
  exact Fz.v

theorem w_ref28_alike {p_l : List api_Job} {p_j : api_Job} {r : Int} (h : ref28_alike p_l p_j = some r) : Pure Try.prog 25 [(.s (List.map c_api_Job p_l)), (.a [(vi p_j.Id), (vi p_j.Ver), (vi p_j.From), (vi p_j.To), (vi p_j.Have), (vi p_j.Left)])] (vi r) := by
  refine pure_of_ok (n := 31) (c := (Try.f25.body.getD .skip)) Try.tok Try.func25 (by kernel_rfl) rfl rfl (Nat.le_of_ble_eq_true rfl) ?_
  unfold ref28_alike at h
  refine Ok.wk (Wk.tab (L := [(0, (.s (List.map c_api_Job p_l))), (1, (.a [(vi p_j.Id), (vi p_j.Ver), (vi p_j.From), (vi p_j.To), (vi p_j.Have), (vi p_j.Left)]))]) (H' := []) ⟨Le.refl _, Le.refl _, True.intro⟩ True.intro rfl) ?_
  refine Ok.seq ?_
  refine Ok.region Try.tok ?_
  refine Ok.wk (Wk.tab (L := [(0, (.s (List.map c_api_Job p_l))), (3, (.b 3 0))]) (H' := [(3, .box [(vi p_j.Id), (vi p_j.Ver), (vi p_j.From), (vi p_j.To), (vi p_j.Have), (vi p_j.Left)])]) ⟨Le.refl _, Le.refl _, True.intro⟩ ⟨⟨_, rfl, .refl _⟩, True.intro⟩ rfl) ?_
  refine Ok.seqj (fun v1 => ⟨Cat.tab [], []⟩) (fun v1 => ref28_alike_J1 v1 = some r) ?_ ?_
  · refine Ok.seq ?_
    refine Ok.region Try.tok ?_
    refine Ok.wk (Wk.tab (L := [(0, (.s (List.map c_api_Job p_l))), (3, (.b 3 0)), (5, (vi (0)))]) (H' := [(3, .box [(vi p_j.Id), (vi p_j.Ver), (vi p_j.From), (vi p_j.To), (vi p_j.Have), (vi p_j.Left)])]) ⟨Le.refl _, Le.refl _, Le.refl _, True.intro⟩ ⟨⟨_, rfl, .refl _⟩, True.intro⟩ rfl) ?_
    refine Ok.block ?_
    refine Ok.loop (fun (s1 : Int) => ⟨Cat.tab [(0, (.s (List.map c_api_Job p_l))), (3, (.b 3 0)), (5, (vi s1))], [(3, .box [(vi p_j.Id), (vi p_j.Ver), (vi p_j.From), (vi p_j.To), (vi p_j.Have), (vi p_j.Left)])]⟩) (ref28_alike_B1 p_l p_j) (s0 := 0) h (Wk.tab ⟨Le.refl _, Le.refl _, Le.refl _, True.intro⟩ ⟨⟨_, rfl, .refl _⟩, True.intro⟩ rfl) ?_
    intro s1 y1 hB1 hy1
    unfold ref28_alike_B1 at hB1
    refine Ok.seq ?_
    refine Ok.seq ?_
    refine Ok.region Try.tok ?_
    refine ⟨_, List.length_map _, fun _ => ?_⟩
    refine Ok.wk (Wk.tab (L := [(0, (.s (List.map c_api_Job p_l))), (3, (.b 3 0)), (5, (vi s1)), (9, (vb ((decide (s1 < (p_l.length : Int))))))]) (H' := [(3, .box [(vi p_j.Id), (vi p_j.Ver), (vi p_j.From), (vi p_j.To), (vi p_j.Have), (vi p_j.Left)])]) ⟨Le.refl _, Le.refl _, Le.refl _, Le.refl _, True.intro⟩ ⟨⟨_, rfl, .refl _⟩, True.intro⟩ rfl) ?_
    refine Ok.cond (d := 9) (b := (decide (s1 < (p_l.length : Int)))) rfl hB1 (fun hb hB1 => ?_) fun hb hB1 => ?_
    · refine Ok.skip ?_
      refine Ok.seq ?_
      refine Ok.block ?_
      obtain ⟨v2, hv2, hB1⟩ := bindS hB1
      refine Ok.seqw ⟨Cat.tab [(0, (.s (List.map c_api_Job p_l))), (3, (.b 3 0)), (5, (vi s1)), (29, (vb v2))], [(3, .box [(vi p_j.Id), (vi p_j.Ver), (vi p_j.From), (vi p_j.To), (vi p_j.Have), (vi p_j.Left)])]⟩ ?_ ?_
      · refine Ok.draw (m := 18) Try.tok Try.mixed (by kernel_rfl) ?_
        obtain ⟨x1, hx1, hv2⟩ := bindS hv2
        refine ⟨_, rfl, ⟨_, rfl, ⟨_, ⟨_, idx_nat hx1, _, idx_row hx1, rfl⟩, ⟨_, rfl, ⟨_, ⟨_, rfl, rfl⟩, ⟨_, rfl, ⟨_, ⟨_, rfl, rfl⟩, ⟨_, rfl, ⟨_, rfl, ?_⟩⟩⟩⟩⟩⟩⟩⟩⟩
        obtain ⟨c1, hg1, hv2⟩ := bindS hv2
        refine Br.ite hg1 (fun hb hg1 => ?_) fun hb hg1 => ?_
        · obtain ⟨x2, hx2, hg1⟩ := bindS hg1
          refine ⟨_, rfl, ⟨_, rfl, ⟨_, ⟨_, idx_nat hx2, _, idx_row hx2, rfl⟩, ⟨_, rfl, ⟨_, ⟨_, rfl, rfl⟩, ⟨_, rfl, ⟨_, ⟨_, rfl, rfl⟩, ⟨_, rfl, ?_⟩⟩⟩⟩⟩⟩⟩⟩
          cases hg1
          refine ⟨_, rfl, ?_⟩
          cases hv2
          exact Wk.tab ⟨Le.refl _, Le.refl _, Le.refl _, Le.refl _, True.intro⟩ ⟨⟨_, rfl, .refl _⟩, True.intro⟩ rfl
        · cases hg1
          refine ⟨_, rfl, ?_⟩
          cases hv2
          exact Wk.tab ⟨Le.refl _, Le.refl _, Le.refl _, Le.refl _, True.intro⟩ ⟨⟨_, rfl, .refl _⟩, True.intro⟩ rfl
      refine Ok.cond (d := 29) (b := v2) rfl hB1 (fun hb hB1 => ?_) fun hb hB1 => ?_
      · refine Ok.seq ?_
        refine Ok.region Try.tok ?_
        refine Ok.wk (Wk.tab (L := [(4, (vi s1))]) (H' := []) ⟨Le.refl _, True.intro⟩ True.intro rfl) ?_
        refine Ok.ret ?_
        have hB1 := out_ret hB1 hy1
        cases hB1
        exact Fz.v
      · refine Ok.skip ?_
        refine Ok.region Try.tok ?_
        obtain ⟨hc1, hB1⟩ := chk_some hB1
        refine (Or.inl ⟨hc1, ?_⟩)
        exact ⟨_, (Option.some.inj hB1).symm, Wk.tab ⟨Le.refl _, Le.refl _, Le.refl _, True.intro⟩ ⟨⟨_, rfl, .refl _⟩, True.intro⟩ rfl⟩
    · refine Ok.exit ?_
      have hB1 := out_ret hB1 hy1
      exact ⟨_, hB1, Wk.tab True.intro True.intro rfl⟩
  intro v1 h
  unfold ref28_alike_J1 at h
  refine Ok.seq ?_
  refine Ok.region Try.tok ?_
  refine Ok.wk (Wk.tab (L := [(4, (vi ((-1))))]) (H' := []) ⟨Le.refl _, True.intro⟩ True.intro rfl) ?_
  refine Ok.ret ?_
  cases h
  exact Fz.v

theorem w_ref28_Ahead {p_a : api_Job} {p_b : api_Job} {r : Bool} (h : ref28_Ahead p_a p_b = some r) : Pure Try.prog 26 [(.a [(vi p_a.Id), (vi p_a.Ver), (vi p_a.From), (vi p_a.To), (vi p_a.Have), (vi p_a.Left)]), (.a [(vi p_b.Id), (vi p_b.Ver), (vi p_b.From), (vi p_b.To), (vi p_b.Have), (vi p_b.Left)])] (vb r) := by
  refine pure_of_ok (n := 30) (c := (Try.f26.body.getD .skip)) Try.tok Try.func26 (by kernel_rfl) rfl rfl (Nat.le_of_ble_eq_true rfl) ?_
  unfold ref28_Ahead at h
  refine Ok.wk (Wk.tab (L := [(0, (.a [(vi p_a.Id), (vi p_a.Ver), (vi p_a.From), (vi p_a.To), (vi p_a.Have), (vi p_a.Left)])), (1, (.a [(vi p_b.Id), (vi p_b.Ver), (vi p_b.From), (vi p_b.To), (vi p_b.Have), (vi p_b.Left)]))]) (H' := []) ⟨Le.refl _, Le.refl _, True.intro⟩ True.intro rfl) ?_
  refine Ok.seq ?_
  refine Ok.region Try.tok ?_
  refine Ok.wk (Wk.tab (L := [(2, (.b 2 0)), (3, (.b 3 0))]) (H' := [(2, .box [(vi p_a.Id), (vi p_a.Ver), (vi p_a.From), (vi p_a.To), (vi p_a.Have), (vi p_a.Left)]), (3, .box [(vi p_b.Id), (vi p_b.Ver), (vi p_b.From), (vi p_b.To), (vi p_b.Have), (vi p_b.Left)])]) ⟨Le.refl _, Le.refl _, True.intro⟩ ⟨⟨_, rfl, .refl _⟩, ⟨_, rfl, .refl _⟩, True.intro⟩ rfl) ?_
  refine Ok.seq ?_
  refine Ok.seq ?_
  refine Ok.region Try.tok ?_
  refine ⟨_, rfl, ⟨_, rfl, ?_⟩⟩
  refine Ok.wk (Wk.tab (L := [(2, (.b 2 0)), (3, (.b 3 0)), (9, (vb ((p_a.Have != p_b.Have))))]) (H' := [(2, .box [(vi p_a.Id), (vi p_a.Ver), (vi p_a.From), (vi p_a.To), (vi p_a.Have), (vi p_a.Left)]), (3, .box [(vi p_b.Id), (vi p_b.Ver), (vi p_b.From), (vi p_b.To), (vi p_b.Have), (vi p_b.Left)])]) ⟨Le.refl _, Le.refl _, Le.refl _, True.intro⟩ ⟨⟨_, rfl, .refl _⟩, ⟨_, rfl, .refl _⟩, True.intro⟩ rfl) ?_
  refine Ok.cond (d := 9) (b := (p_a.Have != p_b.Have)) rfl h (fun hb h => ?_) fun hb h => ?_
  · refine Ok.seq ?_
    refine Ok.region Try.tok ?_
    refine ⟨_, rfl, ⟨_, rfl, ?_⟩⟩
    refine Ok.wk (Wk.tab (L := [(4, (vb ((decide (p_a.Have < p_b.Have)))))]) (H' := []) ⟨Le.refl _, True.intro⟩ True.intro rfl) ?_
    refine Ok.ret ?_
    cases h
    exact Fz.v
  · refine Ok.skip ?_
    refine Ok.seq ?_
    refine Ok.seq ?_
    refine Ok.region Try.tok ?_
    refine ⟨_, rfl, ⟨_, rfl, ?_⟩⟩
    refine Ok.wk (Wk.tab (L := [(2, (.b 2 0)), (3, (.b 3 0)), (19, (vb ((p_a.Id != p_b.Id))))]) (H' := [(2, .box [(vi p_a.Id), (vi p_a.Ver), (vi p_a.From), (vi p_a.To), (vi p_a.Have), (vi p_a.Left)]), (3, .box [(vi p_b.Id), (vi p_b.Ver), (vi p_b.From), (vi p_b.To), (vi p_b.Have), (vi p_b.Left)])]) ⟨Le.refl _, Le.refl _, Le.refl _, True.intro⟩ ⟨⟨_, rfl, .refl _⟩, ⟨_, rfl, .refl _⟩, True.intro⟩ rfl) ?_
    refine Ok.cond (d := 19) (b := (p_a.Id != p_b.Id)) rfl h (fun hb h => ?_) fun hb h => ?_
    · refine Ok.seq ?_
      refine Ok.region Try.tok ?_
      refine ⟨_, rfl, ⟨_, rfl, ?_⟩⟩
      refine Ok.wk (Wk.tab (L := [(4, (vb ((decide (p_a.Id < p_b.Id)))))]) (H' := []) ⟨Le.refl _, True.intro⟩ True.intro rfl) ?_
      refine Ok.ret ?_
      cases h
      exact Fz.v
    · refine Ok.skip ?_
      refine Ok.seq ?_
      refine Ok.region Try.tok ?_
      refine ⟨_, rfl, ⟨_, rfl, ?_⟩⟩
      refine Ok.wk (Wk.tab (L := [(4, (vb ((decide (p_a.To < p_b.To)))))]) (H' := []) ⟨Le.refl _, True.intro⟩ True.intro rfl) ?_
      refine Ok.ret ?_
      cases h
      exact Fz.v

theorem w_ref28_Order {p_l : List api_Job} {r : (List api_Job)} (h : ref28_Order p_l = some r) : Pure Try.prog 11 [(.s (List.map c_api_Job p_l))] (.s (List.map c_api_Job r)) := by
  refine pure_of_ok (n := 65) (c := (Try.f11.body.getD .skip)) Try.tok Try.func11 (by kernel_rfl) rfl rfl (Nat.le_of_ble_eq_true rfl) ?_
  unfold ref28_Order at h
  refine Ok.wk (Wk.tab (L := [(0, (.s (List.map c_api_Job p_l)))]) (H' := []) ⟨Le.refl _, True.intro⟩ True.intro rfl) ?_
  refine Ok.seq ?_
  refine Ok.region Try.tok ?_
  refine Ok.wk (Wk.tab (L := [(0, (.s (List.map c_api_Job p_l)))]) (H' := []) ⟨Le.refl _, True.intro⟩ True.intro rfl) ?_
  refine Ok.seq ?_
  refine Ok.region Try.tok ?_
  refine Or.inl ?_
  refine Ok.wk (Wk.tab (L := [(0, (.s (List.map c_api_Job p_l))), (3, (.s (List.map c_api_Job (([] : List api_Job)))))]) (H' := []) ⟨Le.refl _, Le.refl _, True.intro⟩ True.intro rfl) ?_
  obtain ⟨v1, hv1, h⟩ := bindS h
  refine Ok.seqw ⟨Cat.tab [(3, (.s (List.map c_api_Job v1)))], []⟩ ?_ ?_
  · refine Ok.seq ?_
    refine Ok.region Try.tok ?_
    refine Ok.wk (Wk.tab (L := [(0, (.s (List.map c_api_Job p_l))), (3, (.s (List.map c_api_Job (([] : List api_Job))))), (4, (vi (0)))]) (H' := []) ⟨Le.refl _, Le.refl _, Le.refl _, True.intro⟩ True.intro rfl) ?_
    refine Ok.block ?_
    refine Ok.loop (fun (s1 : (List api_Job) × Int) => ⟨Cat.tab [(0, (.s (List.map c_api_Job p_l))), (3, (.s (List.map c_api_Job s1.1))), (4, (vi s1.2))], []⟩) (ref28_Order_B1 p_l) (s0 := (([] : List api_Job), 0)) hv1 (Wk.tab ⟨Le.refl _, Le.refl _, Le.refl _, True.intro⟩ True.intro rfl) ?_
    intro s1 y1 hB1 hy1
    unfold ref28_Order_B1 at hB1
    refine Ok.seq ?_
    refine Ok.seq ?_
    refine Ok.region Try.tok ?_
    refine ⟨_, List.length_map _, fun _ => ?_⟩
    refine Ok.wk (Wk.tab (L := [(0, (.s (List.map c_api_Job p_l))), (3, (.s (List.map c_api_Job s1.1))), (4, (vi s1.2)), (11, (vb ((decide (s1.2 < (p_l.length : Int))))))]) (H' := []) ⟨Le.refl _, Le.refl _, Le.refl _, Le.refl _, True.intro⟩ True.intro rfl) ?_
    refine Ok.cond (d := 11) (b := (decide (s1.2 < (p_l.length : Int)))) rfl hB1 (fun hb hB1 => ?_) fun hb hB1 => ?_
    · refine Ok.skip ?_
      obtain ⟨v2, hv2, hB1⟩ := bindS hB1
      refine Ok.seqw ⟨Cat.tab [(0, (.s (List.map c_api_Job p_l))), (3, (.s (List.map c_api_Job v2))), (4, (vi s1.2))], []⟩ ?_ ?_
      · refine Ok.block ?_
        refine Ok.seq ?_
        obtain ⟨v3, hv3, hv2⟩ := bindS hv2
        refine Ok.seqw ⟨Cat.tab [(0, (.s (List.map c_api_Job p_l))), (3, (.s (List.map c_api_Job s1.1))), (4, (vi s1.2)), (28, (vb v3))], []⟩ ?_ ?_
        · refine Ok.region Try.tok ?_
          obtain ⟨x1, hx1, hv3⟩ := bindS hv3
          obtain ⟨x2, hx2, hv3⟩ := bindS hv3
          refine ⟨_, idx_nat hx1, _, idx_row hx1, ⟨_, rfl, ?_⟩⟩
          refine CallOk.call (w_ref28_May hx2) (LeL.refl _) ?_
          obtain ⟨c1, hg1, hv3⟩ := bindS hv3
          refine Br.itf hg1 (fun hb hg1 => ?_) fun hb hg1 => ?_
          · cases hg1
            cases hv3
            exact Wk.tab ⟨Le.refl _, Le.refl _, Le.refl _, Le.refl _, True.intro⟩ True.intro rfl
          · obtain ⟨x3, hx3, hg1⟩ := bindS hg1
            obtain ⟨x4, hx4, hg1⟩ := bindS hg1
            refine ⟨_, idx_nat hx3, _, idx_row hx3, ⟨_, rfl, ?_⟩⟩
            refine CallOk.call (w_ref28_alike hx4) (LeL.refl _) ?_
            cases hg1
            cases hv3
            exact Wk.tab ⟨Le.refl _, Le.refl _, Le.refl _, Le.refl _, True.intro⟩ True.intro rfl
        refine Ok.cond (d := 28) (b := v3) rfl hv2 (fun hb hv2 => ?_) fun hb hv2 => ?_
        · refine Ok.exit ?_
          cases hv2
          exact Wk.tab ⟨Le.refl _, Le.refl _, Le.refl _, True.intro⟩ True.intro rfl
        · refine Ok.skip ?_
          refine Ok.seq ?_
          refine Ok.region Try.tok ?_
          refine Ok.wk (Wk.tab (L := [(0, (.s (List.map c_api_Job p_l))), (3, (.s (List.map c_api_Job s1.1))), (4, (vi s1.2)), (5, (vi (0)))]) (H' := []) ⟨Le.refl _, Le.refl _, Le.refl _, Le.refl _, True.intro⟩ True.intro rfl) ?_
          obtain ⟨v4, hv4, hv2⟩ := bindS hv2
          refine Ok.seqw ⟨Cat.tab [(0, (.s (List.map c_api_Job p_l))), (3, (.s (List.map c_api_Job s1.1))), (4, (vi s1.2)), (5, (vi v4))], []⟩ ?_ ?_
          · refine Ok.block ?_
            refine Ok.loop (fun (s2 : Int) => ⟨Cat.tab [(0, (.s (List.map c_api_Job p_l))), (3, (.s (List.map c_api_Job s1.1))), (4, (vi s1.2)), (5, (vi s2))], []⟩) (ref28_Order_B2 s1 p_l) (s0 := 0) hv4 (Wk.tab ⟨Le.refl _, Le.refl _, Le.refl _, Le.refl _, True.intro⟩ True.intro rfl) ?_
            intro s2 y2 hB2 hy2
            unfold ref28_Order_B2 at hB2
            refine Ok.seq ?_
            obtain ⟨v5, hv5, hB2⟩ := bindS hB2
            refine Ok.seqw ⟨Cat.tab [(0, (.s (List.map c_api_Job p_l))), (3, (.s (List.map c_api_Job s1.1))), (4, (vi s1.2)), (5, (vi s2)), (43, (vb v5))], []⟩ ?_ ?_
            · refine Ok.draw (m := 15) Try.tok Try.mixed (by kernel_rfl) ?_
              refine ⟨_, rfl, ⟨_, rfl, ⟨_, ⟨_, List.length_map _, fun _ => rfl⟩, ⟨_, rfl, ⟨_, rfl, ?_⟩⟩⟩⟩⟩
              obtain ⟨c2, hg2, hv5⟩ := bindS hv5
              refine Br.ite hg2 (fun hb hg2 => ?_) fun hb hg2 => ?_
              · obtain ⟨x5, hx5, hg2⟩ := bindS hg2
                obtain ⟨x6, hx6, hg2⟩ := bindS hg2
                obtain ⟨x7, hx7, hg2⟩ := bindS hg2
                refine ⟨_, rfl, ⟨_, rfl, ⟨_, ⟨_, idx_nat hx5, _, idx_row hx5, rfl⟩, ⟨_, ⟨_, rfl, rfl⟩, ⟨_, rfl, ⟨_, rfl, ⟨_, ⟨_, idx_nat hx6, _, idx_row hx6, rfl⟩, ⟨_, ⟨_, rfl, rfl⟩, ⟨_, ⟨_, .of_pure (w_ref28_Ahead hx7) (LeL.refl _), rfl⟩, ?_⟩⟩⟩⟩⟩⟩⟩⟩⟩
                cases hg2
                refine ⟨_, rfl, ?_⟩
                cases hv5
                exact Wk.tab ⟨Le.refl _, Le.refl _, Le.refl _, Le.refl _, Le.refl _, True.intro⟩ True.intro rfl
              · cases hg2
                refine ⟨_, rfl, ?_⟩
                cases hv5
                exact Wk.tab ⟨Le.refl _, Le.refl _, Le.refl _, Le.refl _, Le.refl _, True.intro⟩ True.intro rfl
            refine Ok.cond (d := 43) (b := v5) rfl hB2 (fun hb hB2 => ?_) fun hb hB2 => ?_
            · refine Ok.skip ?_
              refine Ok.block ?_
              refine Ok.region Try.tok ?_
              obtain ⟨hc1, hB2⟩ := chk_some hB2
              refine (Or.inl ⟨hc1, ?_⟩)
              exact ⟨_, (Option.some.inj hB2).symm, Wk.tab ⟨Le.refl _, Le.refl _, Le.refl _, Le.refl _, True.intro⟩ True.intro rfl⟩
            · refine Ok.exit ?_
              have hB2 := out_ret hB2 hy2
              cases hB2
              exact Wk.tab ⟨Le.refl _, Le.refl _, Le.refl _, Le.refl _, True.intro⟩ True.intro rfl
          refine Ok.seq ?_
          refine Ok.region Try.tok ?_
          obtain ⟨hc2, hv2⟩ := chk_some hv2
          obtain ⟨hc3, hv2⟩ := chk_some hv2
          refine Or.inr ⟨_, sl_nat hc2.1, Nat.zero_le _, sl_len hc2, rowsK (f := c_api_Job) (K := 6) (fun _ => rfl) s1.1, _, sl_take _ _ _, ⟨rowsLen_map (f := c_api_Job) (n := 6) (fun _ => rfl) ((s1.1.take v4.toNat)), app_b2 (f := c_api_Job) (l := (([] : List api_Job))) (l' := ((s1.1.take v4.toNat))) hc3, _, (List.map_append (f := c_api_Job) (l₁ := (([] : List api_Job))) (l₂ := ((s1.1.take v4.toNat)))).symm, ?_⟩⟩
          refine Ok.wk (Wk.tab (L := [(0, (.s (List.map c_api_Job p_l))), (3, (.s (List.map c_api_Job s1.1))), (4, (vi s1.2)), (5, (vi v4)), (6, (.o 46))]) (H' := [(46, .own 33 6 (List.map c_api_Job ((([] : List api_Job) ++ (s1.1.take v4.toNat)))))]) ⟨Le.refl _, Le.refl _, Le.refl _, Le.refl _, Le.refl _, True.intro⟩ ⟨⟨_, rfl, .refl _⟩, True.intro⟩ rfl) ?_
          refine Ok.seq ?_
          refine Ok.region Try.tok ?_
          obtain ⟨x8, hx8, hv2⟩ := bindS hv2
          obtain ⟨hc4, hv2⟩ := chk_some hv2
          refine ⟨_, idx_nat hx8, _, idx_row hx8, ⟨_, rfl, Or.inl ⟨rowsLen_map (f := c_api_Job) (n := 6) (fun _ => rfl) ([x8]), app_b2 (f := c_api_Job) (l := ((([] : List api_Job) ++ (s1.1.take v4.toNat)))) (l' := ([x8])) hc4, _, (List.map_append (f := c_api_Job) (l₁ := ((([] : List api_Job) ++ (s1.1.take v4.toNat)))) (l₂ := ([x8]))).symm, ?_⟩⟩⟩
          refine Ok.wk (Wk.tab (L := [(0, (.s (List.map c_api_Job p_l))), (3, (.s (List.map c_api_Job s1.1))), (4, (vi s1.2)), (5, (vi v4)), (6, (.o 46))]) (H' := [(46, .own 33 6 (List.map c_api_Job (((([] : List api_Job) ++ (s1.1.take v4.toNat)) ++ [x8]))))]) ⟨Le.refl _, Le.refl _, Le.refl _, Le.refl _, Le.refl _, True.intro⟩ ⟨⟨_, rfl, .refl _⟩, True.intro⟩ rfl) ?_
          refine Ok.seq ?_
          refine Ok.region Try.tok ?_
          obtain ⟨hc5, hv2⟩ := chk_some hv2
          obtain ⟨hc6, hv2⟩ := chk_some hv2
          refine ⟨_, sl_nat hc5.1, sl_len hc5, Nat.le_refl _, rowsK (f := c_api_Job) (K := 6) (fun _ => rfl) s1.1, _, sl_drop _ _ _, ⟨rowsLen_map (f := c_api_Job) (n := 6) (fun _ => rfl) ((s1.1.drop v4.toNat)), app_b2 (f := c_api_Job) (l := (((([] : List api_Job) ++ (s1.1.take v4.toNat)) ++ [x8]))) (l' := ((s1.1.drop v4.toNat))) hc6, _, (List.map_append (f := c_api_Job) (l₁ := (((([] : List api_Job) ++ (s1.1.take v4.toNat)) ++ [x8]))) (l₂ := ((s1.1.drop v4.toNat)))).symm, ?_⟩⟩
          refine Ok.wk (Wk.tab (L := [(0, (.s (List.map c_api_Job p_l))), (4, (vi s1.2)), (6, (.o 46))]) (H' := [(46, .own 33 6 (List.map c_api_Job ((((([] : List api_Job) ++ (s1.1.take v4.toNat)) ++ [x8]) ++ (s1.1.drop v4.toNat)))))]) ⟨Le.refl _, Le.refl _, Le.refl _, True.intro⟩ ⟨⟨_, rfl, .refl _⟩, True.intro⟩ rfl) ?_
          refine Ok.region Try.tok ?_
          cases hv2
          exact (Wk.freeze (id := 46) rfl).trans (Wk.tab ⟨Le.refl _, Le.refl _, Le.refl _, True.intro⟩ True.intro rfl)
      refine Ok.region Try.tok ?_
      obtain ⟨hc7, hB1⟩ := chk_some hB1
      refine (Or.inl ⟨hc7, ?_⟩)
      exact ⟨_, (Option.some.inj hB1).symm, Wk.tab ⟨Le.refl _, Le.refl _, Le.refl _, True.intro⟩ True.intro rfl⟩
    · refine Ok.exit ?_
      have hB1 := out_ret hB1 hy1
      cases hB1
      exact Wk.tab ⟨Le.refl _, True.intro⟩ True.intro rfl
  refine Ok.seq ?_
  refine Ok.region Try.tok ?_
  refine Ok.wk (Wk.tab (L := [(2, (.s (List.map c_api_Job v1)))]) (H' := []) ⟨Le.refl _, True.intro⟩ True.intro rfl) ?_
  refine Ok.ret ?_
  cases h
  exact Fz.s

theorem w_law28_MendRenews {p_x : List api_Job} {p_y : List api_Job} {p_budget : Int} {r : Bool} (h : law28_MendRenews p_x p_y p_budget = some r) : Pure Try.prog 8 [(.s (List.map c_api_Job p_x)), (.s (List.map c_api_Job p_y)), (.v (.int .u16 p_budget))] (vb r) := by
  refine pure_of_ok (n := 113) (c := (Try.f8.body.getD .skip)) Try.tok Try.func8 (by kernel_rfl) rfl rfl (Nat.le_of_ble_eq_true rfl) ?_
  unfold law28_MendRenews at h
  refine Ok.wk (Wk.tab (L := [(0, (.s (List.map c_api_Job p_x))), (1, (.s (List.map c_api_Job p_y))), (2, (.v (.int .u16 p_budget)))]) (H' := []) ⟨Le.refl _, Le.refl _, Le.refl _, True.intro⟩ True.intro rfl) ?_
  refine Ok.seq ?_
  refine Ok.region Try.tok ?_
  refine Ok.wk (Wk.tab (L := [(0, (.s (List.map c_api_Job p_x))), (1, (.s (List.map c_api_Job p_y))), (2, (.v (.int .u16 p_budget)))]) (H' := []) ⟨Le.refl _, Le.refl _, Le.refl _, True.intro⟩ True.intro rfl) ?_
  refine Ok.seq ?_
  refine Ok.region Try.tok ?_
  obtain ⟨x1, hx1, h⟩ := bindS h
  refine CallOk.call (w_law28_head hx1) (LeL.refl _) ?_
  refine Ok.wk (Wk.tab (L := [(0, (.s (List.map c_api_Job p_x))), (1, (.s (List.map c_api_Job p_y))), (2, (.v (.int .u16 p_budget))), (7, (vb x1))]) (H' := []) ⟨Le.refl _, Le.refl _, Le.refl _, Le.refl _, True.intro⟩ True.intro rfl) ?_
  refine Ok.seq ?_
  refine Ok.region Try.tok ?_
  obtain ⟨x2, hx2, h⟩ := bindS h
  refine CallOk.call (w_ref28_Few hx2) (LeL.refl _) ?_
  obtain ⟨x3, hx3, h⟩ := bindS h
  refine CallOk.call (w_ref28_Order hx3) (LeL.refl _) ?_
  refine Ok.wk (Wk.tab (L := [(1, (.s (List.map c_api_Job p_y))), (2, (.v (.int .u16 p_budget))), (7, (vb x1)), (8, (.s (List.map c_api_Job x3)))]) (H' := []) ⟨Le.refl _, Le.refl _, Le.refl _, Le.refl _, True.intro⟩ True.intro rfl) ?_
  refine Ok.seq ?_
  refine Ok.region Try.tok ?_
  obtain ⟨x4, hx4, h⟩ := bindS h
  refine CallOk.call (w_ref28_Few hx4) (LeL.refl _) ?_
  obtain ⟨x5, hx5, h⟩ := bindS h
  refine CallOk.call (w_ref28_Order hx5) (LeL.refl _) ?_
  refine Ok.wk (Wk.tab (L := [(2, (.v (.int .u16 p_budget))), (7, (vb x1)), (8, (.s (List.map c_api_Job x3))), (9, (.s (List.map c_api_Job x5)))]) (H' := []) ⟨Le.refl _, Le.refl _, Le.refl _, Le.refl _, True.intro⟩ True.intro rfl) ?_
  refine Ok.seq ?_
  refine Ok.region Try.tok ?_
  obtain ⟨x6, hx6, h⟩ := bindS h
  refine CallOk.call (w_mend_Renew hx6) (LeL.refl _) ?_
  refine Ok.wk (Wk.tab (L := [(2, (.v (.int .u16 p_budget))), (7, (vb x1)), (8, (.s (List.map c_api_Job x3))), (9, (.s (List.map c_api_Job x5))), (10, (.s (List.map c_api_Job x6)))]) (H' := []) ⟨Le.refl _, Le.refl _, Le.refl _, Le.refl _, Le.refl _, True.intro⟩ True.intro rfl) ?_
  refine Ok.seq ?_
  obtain ⟨v1, hv1, h⟩ := bindS h
  refine Ok.seqw ⟨Cat.tab [(2, (.v (.int .u16 p_budget))), (7, (vb x1)), (8, (.s (List.map c_api_Job x3))), (9, (.s (List.map c_api_Job x5))), (10, (.s (List.map c_api_Job x6))), (35, (vb v1))], []⟩ ?_ ?_
  · refine Ok.region Try.tok ?_
    refine ⟨_, List.length_map _, fun _ => ⟨_, List.length_map _, fun _ => ?_⟩⟩
    obtain ⟨c1, hg1, hv1⟩ := bindS hv1
    refine Br.itf hg1 (fun hb hg1 => ?_) fun hb hg1 => ?_
    · cases hg1
      cases hv1
      exact Wk.tab ⟨Le.refl _, Le.refl _, Le.refl _, Le.refl _, Le.refl _, Le.refl _, True.intro⟩ True.intro rfl
    · obtain ⟨x7, hx7, hg1⟩ := bindS hg1
      refine CallOk.call (w_mend_Right hx7) (LeL.refl _) ?_
      cases hg1
      cases hv1
      exact Wk.tab ⟨Le.refl _, Le.refl _, Le.refl _, Le.refl _, Le.refl _, Le.refl _, True.intro⟩ True.intro rfl
  refine Ok.cond (d := 35) (b := v1) rfl h (fun hb h => ?_) fun hb h => ?_
  · refine Ok.seq ?_
    refine Ok.region Try.tok ?_
    refine Ok.wk (Wk.tab (L := [(6, (vb false))]) (H' := []) ⟨Le.refl _, True.intro⟩ True.intro rfl) ?_
    refine Ok.ret ?_
    cases h
    exact Fz.v
  · refine Ok.skip ?_
    refine Ok.seqj (fun v2 => ⟨Cat.tab [(2, (.v (.int .u16 p_budget))), (7, (vb x1)), (8, (.s (List.map c_api_Job x3))), (9, (.s (List.map c_api_Job x5)))], []⟩) (fun v2 => law28_MendRenews_J1 x3 p_budget x1 x5 v2 = some r) ?_ ?_
    · refine Ok.seq ?_
      refine Ok.region Try.tok ?_
      refine Ok.wk (Wk.tab (L := [(2, (.v (.int .u16 p_budget))), (7, (vb x1)), (8, (.s (List.map c_api_Job x3))), (9, (.s (List.map c_api_Job x5))), (10, (.s (List.map c_api_Job x6))), (11, (vi (0)))]) (H' := []) ⟨Le.refl _, Le.refl _, Le.refl _, Le.refl _, Le.refl _, Le.refl _, True.intro⟩ True.intro rfl) ?_
      refine Ok.block ?_
      refine Ok.loop (fun (s1 : Int) => ⟨Cat.tab [(2, (.v (.int .u16 p_budget))), (7, (vb x1)), (8, (.s (List.map c_api_Job x3))), (9, (.s (List.map c_api_Job x5))), (10, (.s (List.map c_api_Job x6))), (11, (vi s1))], []⟩) (law28_MendRenews_B1 x6 x5 x3 p_budget x1) (s0 := 0) h (Wk.tab ⟨Le.refl _, Le.refl _, Le.refl _, Le.refl _, Le.refl _, Le.refl _, True.intro⟩ True.intro rfl) ?_
      intro s1 y1 hB1 hy1
      unfold law28_MendRenews_B1 at hB1
      refine Ok.seq ?_
      refine Ok.seq ?_
      refine Ok.region Try.tok ?_
      refine ⟨_, List.length_map _, fun _ => ?_⟩
      refine Ok.wk (Wk.tab (L := [(2, (.v (.int .u16 p_budget))), (7, (vb x1)), (8, (.s (List.map c_api_Job x3))), (9, (.s (List.map c_api_Job x5))), (10, (.s (List.map c_api_Job x6))), (11, (vi s1)), (39, (vb ((decide (s1 < (x6.length : Int))))))]) (H' := []) ⟨Le.refl _, Le.refl _, Le.refl _, Le.refl _, Le.refl _, Le.refl _, Le.refl _, True.intro⟩ True.intro rfl) ?_
      refine Ok.cond (d := 39) (b := (decide (s1 < (x6.length : Int)))) rfl hB1 (fun hb hB1 => ?_) fun hb hB1 => ?_
      · refine Ok.skip ?_
        refine Ok.seq ?_
        refine Ok.block ?_
        refine Ok.seq ?_
        refine Ok.region Try.tok ?_
        obtain ⟨x8, hx8, hB1⟩ := bindS hB1
        refine ⟨_, idx_nat hx8, _, idx_row hx8, ⟨_, rfl, ⟨_, rfl, ?_⟩⟩⟩
        refine Ok.wk (Wk.tab (L := [(2, (.v (.int .u16 p_budget))), (7, (vb x1)), (8, (.s (List.map c_api_Job x3))), (9, (.s (List.map c_api_Job x5))), (10, (.s (List.map c_api_Job x6))), (11, (vi s1)), (12, (.b 12 0))]) (H' := [(12, .box [(vi x8.Id), (vi x8.Ver), (vi x8.From), (vi x8.To), (vi x8.Have), (vi x8.Left)])]) ⟨Le.refl _, Le.refl _, Le.refl _, Le.refl _, Le.refl _, Le.refl _, Le.refl _, True.intro⟩ ⟨⟨_, rfl, .refl _⟩, True.intro⟩ rfl) ?_
        refine Ok.seq ?_
        refine Ok.seq ?_
        refine Ok.draw (m := 8) Try.tok Try.mixed (by kernel_rfl) ?_
        obtain ⟨x9, hx9, hB1⟩ := bindS hB1
        refine ⟨_, rfl, ⟨_, ⟨_, rfl, rfl⟩, ⟨_, rfl, ⟨_, rfl, ⟨_, ⟨_, idx_nat hx9, _, idx_row hx9, rfl⟩, ⟨_, rfl, ⟨_, ⟨_, rfl, rfl⟩, ⟨_, rfl, ?_⟩⟩⟩⟩⟩⟩⟩⟩
        refine Ok.wk (Wk.tab (L := [(2, (.v (.int .u16 p_budget))), (7, (vb x1)), (8, (.s (List.map c_api_Job x3))), (9, (.s (List.map c_api_Job x5))), (10, (.s (List.map c_api_Job x6))), (11, (vi s1)), (12, (.b 12 0)), (53, (vb ((decide (x8.Left > x9.Left)))))]) (H' := [(12, .box [(vi x8.Id), (vi x8.Ver), (vi x8.From), (vi x8.To), (vi x8.Have), (vi x8.Left)])]) ⟨Le.refl _, Le.refl _, Le.refl _, Le.refl _, Le.refl _, Le.refl _, Le.refl _, Le.refl _, True.intro⟩ ⟨⟨_, rfl, .refl _⟩, True.intro⟩ rfl) ?_
        refine Ok.cond (d := 53) (b := (decide (x8.Left > x9.Left))) rfl hB1 (fun hb hB1 => ?_) fun hb hB1 => ?_
        · refine Ok.seq ?_
          refine Ok.region Try.tok ?_
          refine Ok.wk (Wk.tab (L := [(6, (vb false))]) (H' := []) ⟨Le.refl _, True.intro⟩ True.intro rfl) ?_
          refine Ok.ret ?_
          have hB1 := out_ret hB1 hy1
          cases hB1
          exact Fz.v
        · refine Ok.skip ?_
          refine Ok.seq ?_
          refine Ok.region Try.tok ?_
          obtain ⟨x10, hx10, hB1⟩ := bindS hB1
          refine ⟨_, idx_nat hx10, _, idx_row hx10, ⟨_, rfl, ⟨_, rfl, ?_⟩⟩⟩
          refine Ok.wk (Wk.tab (L := [(2, (.v (.int .u16 p_budget))), (7, (vb x1)), (8, (.s (List.map c_api_Job x3))), (9, (.s (List.map c_api_Job x5))), (10, (.s (List.map c_api_Job x6))), (11, (vi s1)), (12, (.b 12 0))]) (H' := [(12, .box [(vi x8.Id), (vi x8.Ver), (vi x8.From), (vi x8.To), (vi x8.Have), (vi x10.Left)])]) ⟨Le.refl _, Le.refl _, Le.refl _, Le.refl _, Le.refl _, Le.refl _, Le.refl _, True.intro⟩ ⟨⟨_, rfl, .refl _⟩, True.intro⟩ rfl) ?_
          refine Ok.seq ?_
          refine Ok.draw (m := 6) Try.tok Try.mixed (by kernel_rfl) ?_
          obtain ⟨x11, hx11, hB1⟩ := bindS hB1
          refine ⟨_, ⟨_, rfl, rfl⟩, ⟨_, rfl, ⟨_, rfl, ⟨_, ⟨_, idx_nat hx11, _, idx_row hx11, rfl⟩, ⟨_, ⟨_, rfl, rfl⟩, ⟨_, ⟨[.int .i64, .int .i64, .int .i64, .int .i64, .int .i64, .int .i64], by kernel_rfl, rfl⟩, ?_⟩⟩⟩⟩⟩⟩
          refine Ok.wk (Wk.tab (L := [(2, (.v (.int .u16 p_budget))), (7, (vb x1)), (8, (.s (List.map c_api_Job x3))), (9, (.s (List.map c_api_Job x5))), (10, (.s (List.map c_api_Job x6))), (11, (vi s1)), (65, (vb ((!(x8.Id == x11.Id && (x8.Ver == x11.Ver && (x8.From == x11.From && (x8.To == x11.To && (x8.Have == x11.Have && (x10.Left == x11.Left && true))))))))))]) (H' := []) ⟨Le.refl _, Le.refl _, Le.refl _, Le.refl _, Le.refl _, Le.refl _, Le.refl _, True.intro⟩ True.intro rfl) ?_
          refine Ok.cond (d := 65) (b := (!(x8.Id == x11.Id && (x8.Ver == x11.Ver && (x8.From == x11.From && (x8.To == x11.To && (x8.Have == x11.Have && (x10.Left == x11.Left && true)))))))) rfl hB1 (fun hb hB1 => ?_) fun hb hB1 => ?_
          · refine Ok.seq ?_
            refine Ok.region Try.tok ?_
            refine Ok.wk (Wk.tab (L := [(6, (vb false))]) (H' := []) ⟨Le.refl _, True.intro⟩ True.intro rfl) ?_
            refine Ok.ret ?_
            have hB1 := out_ret hB1 hy1
            cases hB1
            exact Fz.v
          · refine Ok.skip ?_
            refine Ok.region Try.tok ?_
            obtain ⟨hc1, hB1⟩ := chk_some hB1
            refine (Or.inl ⟨hc1, ?_⟩)
            exact ⟨_, (Option.some.inj hB1).symm, Wk.tab ⟨Le.refl _, Le.refl _, Le.refl _, Le.refl _, Le.refl _, Le.refl _, True.intro⟩ True.intro rfl⟩
      · refine Ok.exit ?_
        have hB1 := out_ret hB1 hy1
        exact ⟨_, hB1, Wk.tab ⟨Le.refl _, Le.refl _, Le.refl _, Le.refl _, True.intro⟩ True.intro rfl⟩
    intro v2 h
    unfold law28_MendRenews_J1 at h
    refine Ok.seq ?_
    refine Ok.region Try.tok ?_
    obtain ⟨x12, hx12, h⟩ := bindS h
    refine ⟨_, rfl, ?_⟩
    refine CallOk.call (w_mend_Step hx12) (LeL.refl _) ?_
    refine Ok.wk (Wk.tab (L := [(7, (vb x1)), (8, (.s (List.map c_api_Job x3))), (9, (.s (List.map c_api_Job x5))), (13, (.s (List.map c_api_Job x12.1)))]) (H' := []) ⟨Le.refl _, Le.refl _, Le.refl _, Le.refl _, True.intro⟩ True.intro rfl) ?_
    refine Ok.seq ?_
    refine Ok.region Try.tok ?_
    obtain ⟨x13, hx13, h⟩ := bindS h
    refine CallOk.call (w_mend_Renew hx13) (LeL.refl _) ?_
    refine Ok.wk (Wk.tab (L := [(7, (vb x1)), (8, (.s (List.map c_api_Job x3))), (9, (.s (List.map c_api_Job x5))), (13, (.s (List.map c_api_Job x12.1))), (15, (.s (List.map c_api_Job x13)))]) (H' := []) ⟨Le.refl _, Le.refl _, Le.refl _, Le.refl _, Le.refl _, True.intro⟩ True.intro rfl) ?_
    refine Ok.seq ?_
    obtain ⟨v3, hv3, h⟩ := bindS h
    refine Ok.seqw ⟨Cat.tab [(7, (vb x1)), (8, (.s (List.map c_api_Job x3))), (9, (.s (List.map c_api_Job x5))), (13, (.s (List.map c_api_Job x12.1))), (15, (.s (List.map c_api_Job x13))), (87, (vb v3))], []⟩ ?_ ?_
    · refine Ok.region Try.tok ?_
      refine ⟨_, List.length_map _, fun _ => ⟨_, List.length_map _, fun _ => ?_⟩⟩
      obtain ⟨c2, hg2, hv3⟩ := bindS hv3
      refine Br.itf hg2 (fun hb hg2 => ?_) fun hb hg2 => ?_
      · cases hg2
        cases hv3
        exact Wk.tab ⟨Le.refl _, Le.refl _, Le.refl _, Le.refl _, Le.refl _, Le.refl _, True.intro⟩ True.intro rfl
      · refine ⟨_, List.length_map _, fun _ => ⟨_, List.length_map _, fun _ => ?_⟩⟩
        cases hg2
        cases hv3
        exact Wk.tab ⟨Le.refl _, Le.refl _, Le.refl _, Le.refl _, Le.refl _, Le.refl _, True.intro⟩ True.intro rfl
    refine Ok.cond (d := 87) (b := v3) rfl h (fun hb h => ?_) fun hb h => ?_
    · refine Ok.seq ?_
      refine Ok.region Try.tok ?_
      refine Ok.wk (Wk.tab (L := [(6, (vb false))]) (H' := []) ⟨Le.refl _, True.intro⟩ True.intro rfl) ?_
      refine Ok.ret ?_
      cases h
      exact Fz.v
    · refine Ok.skip ?_
      obtain ⟨v4, hv4, h⟩ := bindS h
      refine Ok.seqw ⟨Cat.tab [(6, (vb v4))], []⟩ ?_ ?_
      · refine Ok.region Try.tok ?_
        obtain ⟨c3, hg3, hv4⟩ := bindS hv4
        refine Br.ite hg3 (fun hb hg3 => ?_) fun hb hg3 => ?_
        · obtain ⟨x14, hx14, hg3⟩ := bindS hg3
          refine CallOk.norm (L := [(8, (.s (List.map c_api_Job x3))), (9, (.s (List.map c_api_Job x5))), (13, (.s (List.map c_api_Job x12.1))), (15, (.s (List.map c_api_Job x13))), (89, .v (.bool true)), (90, (.s (List.map c_api_Job x3))), (91, (.s (List.map c_api_Job x3)))]) (H' := []) (LeL.refl _) ⟨Le.refl _, Le.refl _, Le.refl _, Le.refl _, Le.refl _, Le.refl _, Le.refl _, True.intro⟩ True.intro rfl (CallOk.call (w_mend_Renew hx14) (LeL.refl _) ?_)
          obtain ⟨x15, hx15, hg3⟩ := bindS hg3
          refine CallOk.norm (L := [(8, (.s (List.map c_api_Job x3))), (9, (.s (List.map c_api_Job x5))), (13, (.s (List.map c_api_Job x12.1))), (15, (.s (List.map c_api_Job x13))), (89, .v (.bool true)), (92, (.s (List.map c_api_Job x14))), (93, (.s (List.map c_api_Job x3)))]) (H' := []) (LeL.refl _) ⟨Le.refl _, Le.refl _, Le.refl _, Le.refl _, Le.refl _, Le.refl _, Le.refl _, True.intro⟩ True.intro rfl (CallOk.call (w_ref27_SameJobs hx15) (LeL.refl _) ?_)
          cases hg3
          obtain ⟨c4, hg4, hv4⟩ := bindS hv4
          refine Br.ite hg4 (fun hb hg4 => ?_) fun hb hg4 => ?_
          · obtain ⟨x16, hx16, hg4⟩ := bindS hg4
            refine CallOk.norm (L := [(8, (.s (List.map c_api_Job x3))), (9, (.s (List.map c_api_Job x5))), (13, (.s (List.map c_api_Job x12.1))), (15, (.s (List.map c_api_Job x13))), (96, .v (.bool true)), (97, (.s (List.map c_api_Job x5)))]) (H' := []) (LeL.refl _) ⟨Le.refl _, Le.refl _, Le.refl _, Le.refl _, Le.refl _, Le.refl _, True.intro⟩ True.intro rfl (CallOk.call (w_mend_Renew hx16) (.cons (Le.nil) (.cons (Le.refl _) (.nil))) ?_)
            obtain ⟨x17, hx17, hg4⟩ := bindS hg4
            refine CallOk.norm (L := [(8, (.s (List.map c_api_Job x3))), (13, (.s (List.map c_api_Job x12.1))), (15, (.s (List.map c_api_Job x13))), (96, .v (.bool true)), (98, (.s (List.map c_api_Job x16))), (99, (.s (List.map c_api_Job x5)))]) (H' := []) (LeL.refl _) ⟨Le.refl _, Le.refl _, Le.refl _, Le.refl _, Le.refl _, Le.refl _, True.intro⟩ True.intro rfl (CallOk.call (w_ref27_SameJobs hx17) (LeL.refl _) ?_)
            cases hg4
            obtain ⟨c5, hg5, hv4⟩ := bindS hv4
            refine Br.ite hg5 (fun hb hg5 => ?_) fun hb hg5 => ?_
            · obtain ⟨hc2, hg5⟩ := chk_some hg5
              obtain ⟨hc3, hg5⟩ := chk_some hg5
              obtain ⟨x18, hx18, hg5⟩ := bindS hg5
              refine ⟨_, List.length_map _, fun _ => ⟨_, List.length_map _, fun _ => (Or.inl ⟨hc2, ⟨_, sl_nat hc3.1, sl_len hc3, Nat.le_refl _, rowsK (f := c_api_Job) (K := 6) (fun _ => rfl) x13, _, sl_drop _ _ _, ?_⟩⟩)⟩⟩
              refine CallOk.norm (L := [(102, .v (.bool true)), (109, (.s (List.map c_api_Job ((x13.drop (((x3.length : Int) - (x12.1.length : Int))).toNat))))), (110, (.s (List.map c_api_Job x12.1)))]) (H' := []) (LeL.refl _) ⟨Le.refl _, Le.refl _, Le.refl _, True.intro⟩ True.intro rfl (CallOk.call (w_ref27_SameJobs hx18) (LeL.refl _) ?_)
              cases hg5
              cases hv4
              exact Wk.tab ⟨Le.refl _, True.intro⟩ True.intro rfl
            · cases hg5
              cases hv4
              exact Wk.tab ⟨Le.refl _, True.intro⟩ True.intro rfl
          · cases hg4
            obtain ⟨c5, hg6, hv4⟩ := bindS hv4
            replace hg6 := iteF hg6
            cases hg6
            cases hv4
            exact Wk.tab ⟨Le.refl _, True.intro⟩ True.intro rfl
        · cases hg3
          obtain ⟨c4, hg7, hv4⟩ := bindS hv4
          replace hg7 := iteF hg7
          cases hg7
          obtain ⟨c5, hg8, hv4⟩ := bindS hv4
          replace hg8 := iteF hg8
          cases hg8
          cases hv4
          exact Wk.tab ⟨Le.refl _, True.intro⟩ True.intro rfl
      refine Ok.ret ?_
      cases h
      exact Fz.v

end Go.Proofs
