/- The walks of this seat beside the plain programs, part 3. No condition. -/
import Derived.Test.YtopkpflbhhhdfaaGreatXSweepTellsEn
import Derived.Test.YtopkpflbhhhdfaaGreatXSweepTellsWk0
import Derived.Test.YtopkpflbhhhdfaaGreatXSweepTellsWk1
import Derived.Test.YtopkpflbhhhdfaaGreatXSweepTellsWk2
namespace Go.Proofs
set_option linter.all false
open Go Go.Cat
variable [M : Mono]
set_option maxRecDepth 100000

theorem w_law29_SweepTells [Off] {p_x : law29_Set} {p_now : Int} {r : Bool} (h : law29_SweepTells p_x p_now = some r) : Pure Tryz.prog 3 [(.a [(.s (List.map c_api_Named p_x.Named)), (.s (List.map c_api_Room p_x.Rooms)), (.s (List.map c_api_Lease p_x.Leases)), (.s (List.map c_api_Disk p_x.Disks))]), (vi p_now)] (vb r) := by
  refine pure_of_ok (n := 93) (c := (Tryz.f3.body.getD .skip)) Tryz.tok Tryz.func3 (by kernel_rfl) rfl rfl (Nat.le_of_ble_eq_true rfl) ?_
  unfold law29_SweepTells at h
  refine Ok.wk (Wk.tab (L := [(0, (.a [(.s (List.map c_api_Named p_x.Named)), (.s (List.map c_api_Room p_x.Rooms)), (.s (List.map c_api_Lease p_x.Leases)), (.s (List.map c_api_Disk p_x.Disks))])), (1, (vi p_now))]) (H' := []) ⟨Le.refl _, Le.refl _, True.intro⟩ True.intro rfl) ?_
  refine Ok.seq ?_
  refine Ok.region Tryz.tok ?_
  refine Ok.wk (Wk.tab (L := [(1, (vi p_now)), (2, (.b 2 0))]) (H' := [(2, .box [(.s (List.map c_api_Named p_x.Named)), (.s (List.map c_api_Room p_x.Rooms)), (.s (List.map c_api_Lease p_x.Leases)), (.s (List.map c_api_Disk p_x.Disks))])]) ⟨Le.refl _, Le.refl _, True.intro⟩ ⟨⟨_, rfl, .refl _⟩, True.intro⟩ rfl) ?_
  refine Ok.seq ?_
  refine Ok.region Tryz.tok ?_
  obtain ⟨x1, hx1, h⟩ := bindS h
  refine CallOk.call (w_law29_head hx1) (LeL.refl _) ?_
  refine Ok.wk (Wk.tab (L := [(1, (vi p_now)), (2, (.b 2 0)), (5, (vb x1))]) (H' := [(2, .box [(.s (List.map c_api_Named p_x.Named)), (.s (List.map c_api_Room p_x.Rooms)), (.s (List.map c_api_Lease p_x.Leases)), (.s (List.map c_api_Disk p_x.Disks))])]) ⟨Le.refl _, Le.refl _, Le.refl _, True.intro⟩ ⟨⟨_, rfl, .refl _⟩, True.intro⟩ rfl) ?_
  refine Ok.seq ?_
  refine Ok.seq ?_
  refine Ok.region Tryz.tok ?_
  obtain ⟨x2, hx2, h⟩ := bindS h
  refine ⟨_, rfl, ?_⟩
  refine CallOk.call (w_law29_Great hx2) (LeL.refl _) ?_
  refine Ok.wk (Wk.tab (L := [(1, (vi p_now)), (2, (.b 2 0)), (5, (vb x1)), (12, (vb x2))]) (H' := [(2, .box [(.s (List.map c_api_Named p_x.Named)), (.s (List.map c_api_Room p_x.Rooms)), (.s (List.map c_api_Lease p_x.Leases)), (.s (List.map c_api_Disk p_x.Disks))])]) ⟨Le.refl _, Le.refl _, Le.refl _, Le.refl _, True.intro⟩ ⟨⟨_, rfl, .refl _⟩, True.intro⟩ rfl) ?_
  refine Ok.cond (d := 12) (b := x2) rfl h (fun hb h => ?_) fun hb h => ?_
  · refine Ok.seq ?_
    refine Ok.region Tryz.tok ?_
    refine Ok.wk (Wk.tab (L := [(4, (vb x1))]) (H' := []) ⟨Le.refl _, True.intro⟩ True.intro rfl) ?_
    refine Ok.ret ?_
    cases h
    exact Fz.v
  · refine Ok.skip ?_
    refine Ok.seq ?_
    refine Ok.region Tryz.tok ?_
    obtain ⟨x3, hx3, h⟩ := bindS h
    refine ⟨_, rfl, ⟨_, rfl, ⟨_, rfl, ⟨_, rfl, ?_⟩⟩⟩⟩
    refine CallOk.call (w_sweep_Sweep hx3) (LeL.refl _) ?_
    refine Ok.wk (Wk.tab (L := [(1, (vi p_now)), (2, (.b 2 0)), (5, (vb x1)), (6, (.s (List.map c_api_Disk x3.1))), (7, (.s (List.map c_api_Room x3.2)))]) (H' := [(2, .box [(.s (List.map c_api_Named p_x.Named)), (.s (List.map c_api_Room p_x.Rooms)), (.s (List.map c_api_Lease p_x.Leases)), (.s (List.map c_api_Disk p_x.Disks))])]) ⟨Le.refl _, Le.refl _, Le.refl _, Le.refl _, Le.refl _, True.intro⟩ ⟨⟨_, rfl, .refl _⟩, True.intro⟩ rfl) ?_
    refine Ok.seq ?_
    refine Ok.region Tryz.tok ?_
    obtain ⟨x4, hx4, h⟩ := bindS h
    refine ⟨_, rfl, ⟨_, rfl, ⟨_, rfl, ⟨_, rfl, ?_⟩⟩⟩⟩
    refine CallOk.call (w_ref29_Sweep hx4) (LeL.refl _) ?_
    refine Ok.wk (Wk.tab (L := [(1, (vi p_now)), (2, (.b 2 0)), (5, (vb x1)), (6, (.s (List.map c_api_Disk x3.1))), (7, (.s (List.map c_api_Room x3.2))), (8, (.s (List.map c_api_Disk x4.1))), (9, (.s (List.map c_api_Room x4.2)))]) (H' := [(2, .box [(.s (List.map c_api_Named p_x.Named)), (.s (List.map c_api_Room p_x.Rooms)), (.s (List.map c_api_Lease p_x.Leases)), (.s (List.map c_api_Disk p_x.Disks))])]) ⟨Le.refl _, Le.refl _, Le.refl _, Le.refl _, Le.refl _, Le.refl _, Le.refl _, True.intro⟩ ⟨⟨_, rfl, .refl _⟩, True.intro⟩ rfl) ?_
    obtain ⟨v1, hv1, h⟩ := bindS h
    refine Ok.seqw ⟨Cat.tab [(4, (vb v1))], []⟩ ?_ ?_
    · refine Ok.draw (m := 54) (MD := ⟨[]⟩) (CH := ⟨[]⟩) Tryz.tok Tryz.mixed (by kernel_rfl) ?_
      refine ⟨_, rfl, ⟨_, rfl, ?_⟩⟩
      obtain ⟨c1, hg1, hv1⟩ := bindS hv1
      refine Br.ite hg1 (fun hb hg1 => ?_) fun hb hg1 => ?_
      · obtain ⟨x5, hx5, hg1⟩ := bindS hg1
        obtain ⟨x6, hx6, hg1⟩ := bindS hg1
        obtain ⟨x7, hx7, hg1⟩ := bindS hg1
        refine ⟨_, rfl, ⟨_, ⟨_, rfl, rfl⟩, ⟨_, rfl, ⟨_, ⟨_, rfl, rfl⟩, ⟨_, rfl, ⟨_, ⟨_, rfl, rfl⟩, ⟨_, rfl, ⟨_, ⟨_, .of_pure (w_sweep_Keeps hx5) (LeL.refl _), rfl⟩, ⟨_, rfl, ⟨_, ⟨_, rfl, rfl⟩, ⟨_, rfl, ⟨_, ⟨_, rfl, rfl⟩, ⟨_, rfl, ⟨_, ⟨_, rfl, rfl⟩, ⟨_, rfl, ⟨_, ⟨_, .of_pure (w_ref29_Keeps hx6) (LeL.refl _), rfl⟩, ⟨_, ⟨_, .of_pure (w_ref02_Ints hx7) (LeL.refl _), rfl⟩, ?_⟩⟩⟩⟩⟩⟩⟩⟩⟩⟩⟩⟩⟩⟩⟩⟩⟩
        cases hg1
        refine ⟨_, rfl, ?_⟩
        refine ⟨_, rfl, ?_⟩
        obtain ⟨c2, hg2, hv1⟩ := bindS hv1
        refine Br.ite hg2 (fun hb hg2 => ?_) fun hb hg2 => ?_
        · obtain ⟨x8, hx8, hg2⟩ := bindS hg2
          obtain ⟨x9, hx9, hg2⟩ := bindS hg2
          obtain ⟨x10, hx10, hg2⟩ := bindS hg2
          refine ⟨_, rfl, ⟨_, ⟨_, rfl, rfl⟩, ⟨_, rfl, ⟨_, ⟨_, rfl, rfl⟩, ⟨_, rfl, ⟨_, ⟨_, rfl, rfl⟩, ⟨_, rfl, ⟨_, rfl, ⟨_, ⟨_, rfl, rfl⟩, ⟨_, ⟨_, .of_pure (w_sweep_Gone hx8) (LeL.refl _), rfl⟩, ⟨_, rfl, ⟨_, ⟨_, rfl, rfl⟩, ⟨_, rfl, ⟨_, ⟨_, rfl, rfl⟩, ⟨_, rfl, ⟨_, ⟨_, rfl, rfl⟩, ⟨_, rfl, ⟨_, rfl, ⟨_, ⟨_, rfl, rfl⟩, ⟨_, ⟨_, .of_pure (w_ref29_Gone hx9) (LeL.refl _), rfl⟩, ⟨_, ⟨_, .of_pure (w_ref02_Ints hx10) (LeL.refl _), rfl⟩, ?_⟩⟩⟩⟩⟩⟩⟩⟩⟩⟩⟩⟩⟩⟩⟩⟩⟩⟩⟩⟩⟩
          cases hg2
          refine ⟨_, rfl, ?_⟩
          refine ⟨_, rfl, ?_⟩
          obtain ⟨c3, hg3, hv1⟩ := bindS hv1
          refine Br.ite hg3 (fun hb hg3 => ?_) fun hb hg3 => ?_
          · obtain ⟨x11, hx11, hg3⟩ := bindS hg3
            refine ⟨_, rfl, ⟨_, rfl, ⟨_, ⟨_, .of_pure (w_ref27_SameDisks hx11) (LeL.refl _), rfl⟩, ?_⟩⟩⟩
            cases hg3
            refine ⟨_, rfl, ?_⟩
            refine ⟨_, rfl, ?_⟩
            obtain ⟨c4, hg4, hv1⟩ := bindS hv1
            refine Br.ite hg4 (fun hb hg4 => ?_) fun hb hg4 => ?_
            · obtain ⟨x12, hx12, hg4⟩ := bindS hg4
              refine ⟨_, rfl, ⟨_, rfl, ⟨_, ⟨_, .of_pure (w_ref29_SameRooms hx12) (LeL.refl _), rfl⟩, ?_⟩⟩⟩
              cases hg4
              refine ⟨_, rfl, ?_⟩
              refine ⟨_, rfl, ⟨True.intro, ?_⟩⟩
              cases hv1
              exact Wk.tab ⟨Le.refl _, True.intro⟩ True.intro rfl
            · cases hg4
              refine ⟨_, rfl, ?_⟩
              refine ⟨_, rfl, ⟨True.intro, ?_⟩⟩
              cases hv1
              exact Wk.tab ⟨Le.refl _, True.intro⟩ True.intro rfl
          · cases hg3
            refine ⟨_, rfl, ?_⟩
            refine ⟨_, rfl, ?_⟩
            obtain ⟨c4, hg5, hv1⟩ := bindS hv1
            replace hg5 := iteF hg5
            cases hg5
            refine ⟨_, rfl, ?_⟩
            refine ⟨_, rfl, ⟨True.intro, ?_⟩⟩
            cases hv1
            exact Wk.tab ⟨Le.refl _, True.intro⟩ True.intro rfl
        · cases hg2
          refine ⟨_, rfl, ?_⟩
          refine ⟨_, rfl, ?_⟩
          obtain ⟨c3, hg6, hv1⟩ := bindS hv1
          replace hg6 := iteF hg6
          cases hg6
          refine ⟨_, rfl, ?_⟩
          refine ⟨_, rfl, ?_⟩
          obtain ⟨c4, hg7, hv1⟩ := bindS hv1
          replace hg7 := iteF hg7
          cases hg7
          refine ⟨_, rfl, ?_⟩
          refine ⟨_, rfl, ⟨True.intro, ?_⟩⟩
          cases hv1
          exact Wk.tab ⟨Le.refl _, True.intro⟩ True.intro rfl
      · cases hg1
        refine ⟨_, rfl, ?_⟩
        refine ⟨_, rfl, ?_⟩
        obtain ⟨c2, hg8, hv1⟩ := bindS hv1
        replace hg8 := iteF hg8
        cases hg8
        refine ⟨_, rfl, ?_⟩
        refine ⟨_, rfl, ?_⟩
        obtain ⟨c3, hg9, hv1⟩ := bindS hv1
        replace hg9 := iteF hg9
        cases hg9
        refine ⟨_, rfl, ?_⟩
        refine ⟨_, rfl, ?_⟩
        obtain ⟨c4, hg10, hv1⟩ := bindS hv1
        replace hg10 := iteF hg10
        cases hg10
        refine ⟨_, rfl, ?_⟩
        refine ⟨_, rfl, ⟨True.intro, ?_⟩⟩
        cases hv1
        exact Wk.tab ⟨Le.refl _, True.intro⟩ True.intro rfl
    refine Ok.ret ?_
    cases h
    exact Fz.v

end Go.Proofs
