/- The walks of this seat beside the plain programs, part 1. No condition. -/
import Derived.Test.YtlhgbjgfnihijaaXDiskFirstEn
import Derived.Test.YtlhgbjgfnihijaaXDiskFirstWk0
namespace Go.Proofs
set_option linter.all false
open Go Go.Cat
variable [M : Mono]
set_option maxRecDepth 100000

theorem w_law04_DiskFirst [Off] {p_d : api_Disk} {p_l : List law04_Act} {p_keep : UInt8} {p_at : Int} {r : Bool} (h : law04_DiskFirst p_d p_l p_keep p_at = some r) : Pure Try.prog 6 [(.a [(.s (List.map c_api_Page p_d.Synced)), (.s (List.map c_api_Page p_d.Loose)), (vb p_d.Down)]), (.s (List.map c_law04_Act p_l)), (vu p_keep), (vi p_at)] (vb r) := by
  refine pure_of_ok (n := 138) (c := (Try.f6.body.getD .skip)) Try.tok Try.func6 (by kernel_rfl) rfl rfl (Nat.le_of_ble_eq_true rfl) ?_
  unfold law04_DiskFirst at h
  refine Ok.wk (Wk.tab (L := [(0, (.a [(.s (List.map c_api_Page p_d.Synced)), (.s (List.map c_api_Page p_d.Loose)), (vb p_d.Down)])), (1, (.s (List.map c_law04_Act p_l))), (2, (vu p_keep)), (3, (vi p_at))]) (H' := []) ⟨Le.refl _, Le.refl _, Le.refl _, Le.refl _, True.intro⟩ True.intro rfl) ?_
  refine Ok.seq ?_
  refine Ok.region Try.tok ?_
  refine Ok.wk (Wk.tab (L := [(1, (.s (List.map c_law04_Act p_l))), (2, (vu p_keep)), (3, (vi p_at)), (4, (.b 4 0))]) (H' := [(4, .box [(.s (List.map c_api_Page p_d.Synced)), (.s (List.map c_api_Page p_d.Loose)), (vb p_d.Down)])]) ⟨Le.refl _, Le.refl _, Le.refl _, Le.refl _, True.intro⟩ ⟨⟨_, rfl, .refl _⟩, True.intro⟩ rfl) ?_
  refine Ok.seq ?_
  refine Ok.region Try.tok ?_
  obtain ⟨x1, hx1, h⟩ := bindS h
  refine CallOk.call (w_law04_head hx1) (LeL.refl _) ?_
  refine Ok.wk (Wk.tab (L := [(1, (.s (List.map c_law04_Act p_l))), (2, (vu p_keep)), (3, (vi p_at)), (4, (.b 4 0)), (9, (vb x1))]) (H' := [(4, .box [(.s (List.map c_api_Page p_d.Synced)), (.s (List.map c_api_Page p_d.Loose)), (vb p_d.Down)])]) ⟨Le.refl _, Le.refl _, Le.refl _, Le.refl _, Le.refl _, True.intro⟩ ⟨⟨_, rfl, .refl _⟩, True.intro⟩ rfl) ?_
  refine Ok.seq ?_
  refine Ok.region Try.tok ?_
  obtain ⟨x2, hx2, h⟩ := bindS h
  refine ⟨_, rfl, ?_⟩
  refine CallOk.call (w_law04_Fits hx2) (LeL.refl _) ?_
  refine Ok.wk (Wk.tab (L := [(1, (.s (List.map c_law04_Act p_l))), (2, (vu p_keep)), (3, (vi p_at)), (4, (.b 4 0)), (9, (vb x1)), (10, (vb x2))]) (H' := [(4, .box [(.s (List.map c_api_Page p_d.Synced)), (.s (List.map c_api_Page p_d.Loose)), (vb p_d.Down)])]) ⟨Le.refl _, Le.refl _, Le.refl _, Le.refl _, Le.refl _, Le.refl _, True.intro⟩ ⟨⟨_, rfl, .refl _⟩, True.intro⟩ rfl) ?_
  refine Ok.seq ?_
  obtain ⟨v1, hv1, h⟩ := bindS h
  refine Ok.seqw ⟨Cat.tab [(1, (.s (List.map c_law04_Act p_l))), (2, (vu p_keep)), (3, (vi p_at)), (4, (.b 4 0)), (9, (vb x1)), (45, (vb v1))], [(4, .box [(.s (List.map c_api_Page p_d.Synced)), (.s (List.map c_api_Page p_d.Loose)), (vb p_d.Down)])]⟩ ?_ ?_
  · refine Ok.region Try.tok ?_
    obtain ⟨c1, hg1, hv1⟩ := bindS hv1
    refine Br.itf hg1 (fun hb hg1 => ?_) fun hb hg1 => ?_
    · cases hg1
      obtain ⟨c2, hg2, hv1⟩ := bindS hv1
      replace hg2 := iteT hg2
      cases hg2
      obtain ⟨c3, hg3, hv1⟩ := bindS hv1
      replace hg3 := iteT hg3
      cases hg3
      cases hv1
      exact Wk.tab ⟨Le.refl _, Le.refl _, Le.refl _, Le.refl _, Le.refl _, Le.refl _, True.intro⟩ ⟨⟨_, rfl, .refl _⟩, True.intro⟩ rfl
    · refine ⟨_, rfl, ?_⟩
      cases hg1
      obtain ⟨c2, hg4, hv1⟩ := bindS hv1
      refine Br.itf hg4 (fun hb hg4 => ?_) fun hb hg4 => ?_
      · cases hg4
        obtain ⟨c3, hg5, hv1⟩ := bindS hv1
        replace hg5 := iteT hg5
        cases hg5
        cases hv1
        exact Wk.tab ⟨Le.refl _, Le.refl _, Le.refl _, Le.refl _, Le.refl _, Le.refl _, True.intro⟩ ⟨⟨_, rfl, .refl _⟩, True.intro⟩ rfl
      · refine ⟨_, rfl, ⟨_, List.length_map _, fun _ => ?_⟩⟩
        cases hg4
        obtain ⟨c3, hg6, hv1⟩ := bindS hv1
        refine Br.itf hg6 (fun hb hg6 => ?_) fun hb hg6 => ?_
        · cases hg6
          cases hv1
          exact Wk.tab ⟨Le.refl _, Le.refl _, Le.refl _, Le.refl _, Le.refl _, Le.refl _, True.intro⟩ ⟨⟨_, rfl, .refl _⟩, True.intro⟩ rfl
        · refine ⟨_, List.length_map _, fun _ => ?_⟩
          cases hg6
          cases hv1
          exact Wk.tab ⟨Le.refl _, Le.refl _, Le.refl _, Le.refl _, Le.refl _, Le.refl _, True.intro⟩ ⟨⟨_, rfl, .refl _⟩, True.intro⟩ rfl
  refine Ok.cond (d := 45) (b := v1) rfl h (fun hb h => ?_) fun hb h => ?_
  · refine Ok.seq ?_
    refine Ok.region Try.tok ?_
    refine Ok.wk (Wk.tab (L := [(8, (vb x1))]) (H' := []) ⟨Le.refl _, True.intro⟩ True.intro rfl) ?_
    refine Ok.ret ?_
    cases h
    exact Fz.v
  · refine Ok.skip ?_
    refine Ok.seq ?_
    refine Ok.region Try.tok ?_
    refine ⟨_, rfl, ⟨_, rfl, ?_⟩⟩
    refine Ok.wk (Wk.tab (L := [(1, (.s (List.map c_law04_Act p_l))), (2, (vu p_keep)), (3, (vi p_at)), (4, (.b 4 0)), (9, (vb x1)), (11, (.b 11 0))]) (H' := [(4, .box [(.s (List.map c_api_Page p_d.Synced)), (.s (List.map c_api_Page p_d.Loose)), (vb p_d.Down)]), (11, .box [(.s (List.map c_api_Page p_d.Synced)), (.s (List.map c_api_Page p_d.Loose)), (vb p_d.Down)])]) ⟨Le.refl _, Le.refl _, Le.refl _, Le.refl _, Le.refl _, Le.refl _, True.intro⟩ ⟨⟨_, rfl, .refl _⟩, ⟨_, rfl, .refl _⟩, True.intro⟩ rfl) ?_
    refine Ok.seq ?_
    refine Ok.region Try.tok ?_
    refine ⟨_, rfl, ⟨_, rfl, ?_⟩⟩
    refine Ok.wk (Wk.tab (L := [(1, (.s (List.map c_law04_Act p_l))), (2, (vu p_keep)), (3, (vi p_at)), (9, (vb x1)), (11, (.b 11 0)), (12, (.b 12 0))]) (H' := [(11, .box [(.s (List.map c_api_Page p_d.Synced)), (.s (List.map c_api_Page p_d.Loose)), (vb p_d.Down)]), (12, .box [(.s (List.map c_api_Page p_d.Synced)), (.s (List.map c_api_Page p_d.Loose)), (vb p_d.Down)])]) ⟨Le.refl _, Le.refl _, Le.refl _, Le.refl _, Le.refl _, Le.refl _, True.intro⟩ ⟨⟨_, rfl, .refl _⟩, ⟨_, rfl, .refl _⟩, True.intro⟩ rfl) ?_
    refine Ok.seq ?_
    refine Ok.region Try.tok ?_
    refine Ok.wk (Wk.tab (L := [(1, (.s (List.map c_law04_Act p_l))), (2, (vu p_keep)), (3, (vi p_at)), (9, (vb x1)), (11, (.b 11 0)), (12, (.b 12 0)), (13, (vi (0)))]) (H' := [(11, .box [(.s (List.map c_api_Page p_d.Synced)), (.s (List.map c_api_Page p_d.Loose)), (vb p_d.Down)]), (12, .box [(.s (List.map c_api_Page p_d.Synced)), (.s (List.map c_api_Page p_d.Loose)), (vb p_d.Down)])]) ⟨Le.refl _, Le.refl _, Le.refl _, Le.refl _, Le.refl _, Le.refl _, Le.refl _, True.intro⟩ ⟨⟨_, rfl, .refl _⟩, ⟨_, rfl, .refl _⟩, True.intro⟩ rfl) ?_
    refine Ok.seqj (fun v2 => ⟨Cat.tab [(2, (vu p_keep)), (3, (vi p_at)), (9, (vb x1)), (11, (.b 11 0)), (12, (.b 12 0))], [(11, .box [(.s (List.map c_api_Page v2.1)), (.s (List.map c_api_Page v2.2.1)), (vb v2.2.2.1)]), (12, .box [(.s (List.map c_api_Page v2.2.2.2.1)), (.s (List.map c_api_Page v2.2.2.2.2.1)), (vb v2.2.2.2.2.2)])]⟩) (fun v2 => law04_DiskFirst_J1 p_keep p_at x1 v2 = some r) ?_ ?_
    · refine Ok.seq ?_
      refine Ok.region Try.tok ?_
      refine Ok.wk (Wk.tab (L := [(1, (.s (List.map c_law04_Act p_l))), (2, (vu p_keep)), (3, (vi p_at)), (9, (vb x1)), (11, (.b 11 0)), (12, (.b 12 0)), (13, (vi (0))), (14, (vi (0)))]) (H' := [(11, .box [(.s (List.map c_api_Page p_d.Synced)), (.s (List.map c_api_Page p_d.Loose)), (vb p_d.Down)]), (12, .box [(.s (List.map c_api_Page p_d.Synced)), (.s (List.map c_api_Page p_d.Loose)), (vb p_d.Down)])]) ⟨Le.refl _, Le.refl _, Le.refl _, Le.refl _, Le.refl _, Le.refl _, Le.refl _, Le.refl _, True.intro⟩ ⟨⟨_, rfl, .refl _⟩, ⟨_, rfl, .refl _⟩, True.intro⟩ rfl) ?_
      refine Ok.block ?_
      refine Ok.loop (fun (s1 : Int × Int × (List api_Page) × (List api_Page) × Bool × (List api_Page) × (List api_Page) × Bool) => ⟨Cat.tab [(1, (.s (List.map c_law04_Act p_l))), (2, (vu p_keep)), (3, (vi p_at)), (9, (vb x1)), (11, (.b 11 0)), (12, (.b 12 0)), (13, (vi s1.1)), (14, (vi s1.2.1))], [(11, .box [(.s (List.map c_api_Page s1.2.2.1)), (.s (List.map c_api_Page s1.2.2.2.1)), (vb s1.2.2.2.2.1)]), (12, .box [(.s (List.map c_api_Page s1.2.2.2.2.2.1)), (.s (List.map c_api_Page s1.2.2.2.2.2.2.1)), (vb s1.2.2.2.2.2.2.2)])]⟩) (law04_DiskFirst_B1 p_l p_keep p_at x1) (s0 := (0, 0, p_d.Synced, p_d.Loose, p_d.Down, p_d.Synced, p_d.Loose, p_d.Down)) h (Wk.tab ⟨Le.refl _, Le.refl _, Le.refl _, Le.refl _, Le.refl _, Le.refl _, Le.refl _, Le.refl _, True.intro⟩ ⟨⟨_, rfl, .refl _⟩, ⟨_, rfl, .refl _⟩, True.intro⟩ rfl) ?_
      intro s1 y1 hB1 hy1
      unfold law04_DiskFirst_B1 at hB1
      refine Ok.seq ?_
      refine Ok.seq ?_
      refine Ok.region Try.tok ?_
      refine ⟨_, List.length_map _, fun _ => ?_⟩
      refine Ok.wk (Wk.tab (L := [(1, (.s (List.map c_law04_Act p_l))), (2, (vu p_keep)), (3, (vi p_at)), (9, (vb x1)), (11, (.b 11 0)), (12, (.b 12 0)), (13, (vi s1.1)), (14, (vi s1.2.1)), (52, (vb ((decide (s1.2.1 < (p_l.length : Int))))))]) (H' := [(11, .box [(.s (List.map c_api_Page s1.2.2.1)), (.s (List.map c_api_Page s1.2.2.2.1)), (vb s1.2.2.2.2.1)]), (12, .box [(.s (List.map c_api_Page s1.2.2.2.2.2.1)), (.s (List.map c_api_Page s1.2.2.2.2.2.2.1)), (vb s1.2.2.2.2.2.2.2)])]) ⟨Le.refl _, Le.refl _, Le.refl _, Le.refl _, Le.refl _, Le.refl _, Le.refl _, Le.refl _, Le.refl _, True.intro⟩ ⟨⟨_, rfl, .refl _⟩, ⟨_, rfl, .refl _⟩, True.intro⟩ rfl) ?_
      refine Ok.cond (d := 52) (b := (decide (s1.2.1 < (p_l.length : Int)))) rfl hB1 (fun hb hB1 => ?_) fun hb hB1 => ?_
      · refine Ok.skip ?_
        refine Ok.seqj (fun v3 => ⟨Cat.tab [(1, (.s (List.map c_law04_Act p_l))), (2, (vu p_keep)), (3, (vi p_at)), (9, (vb x1)), (11, (.b 11 0)), (12, (.b 12 0)), (13, (vi v3.1)), (14, (vi s1.2.1))], [(11, .box [(.s (List.map c_api_Page v3.2.1)), (.s (List.map c_api_Page v3.2.2.1)), (vb v3.2.2.2.1)]), (12, .box [(.s (List.map c_api_Page v3.2.2.2.2.1)), (.s (List.map c_api_Page v3.2.2.2.2.2.1)), (vb v3.2.2.2.2.2.2)])]⟩) (fun v3 => law04_DiskFirst_J2 s1 v3 = some y1) ?_ ?_
        · refine Ok.block ?_
          refine Ok.seq ?_
          refine Ok.draw2 (m := 16) (late := [14]) Try.tok Try.mixed (by kernel_rfl) ?_
          obtain ⟨x3, hx3, hB1⟩ := bindS hB1
          obtain ⟨x4, hx4, hB1⟩ := bindS hB1
          obtain ⟨x5, hx5, hB1⟩ := bindS hB1
          refine ⟨_, ⟨_, rfl, rfl⟩, ⟨_, rfl, ⟨_, rfl, ⟨_, ⟨_, idx_nat hx3, _, idx_row hx3, rfl⟩, ⟨_, rfl, ⟨_, ⟨_, rfl, rfl⟩, ⟨_, rfl, ⟨_, rfl, ⟨_, ⟨_, idx_nat hx4, _, idx_row hx4, rfl⟩, ⟨_, rfl, ⟨_, ⟨_, rfl, rfl⟩, ⟨_, ⟨_, .of_pure (w_disk_Write hx5) (LeL.refl _), rfl⟩, ⟨_, rfl, ⟨_, rfl, ⟨_, rfl, ?_⟩⟩⟩⟩⟩⟩⟩⟩⟩⟩⟩⟩⟩⟩⟩
          refine ⟨_, rfl, ⟨⟨⟨_, rfl, rfl⟩, True.intro⟩, ?_⟩⟩
          refine Ok.wk (Wk.tab (L := [(1, (.s (List.map c_law04_Act p_l))), (2, (vu p_keep)), (3, (vi p_at)), (9, (vb x1)), (11, (.b 11 0)), (12, (.b 12 0)), (13, (vi s1.1)), (14, (vi s1.2.1)), (15, (.b 15 0)), (16, (vi x5.2))]) (H' := [(11, .box [(.s (List.map c_api_Page s1.2.2.1)), (.s (List.map c_api_Page s1.2.2.2.1)), (vb s1.2.2.2.2.1)]), (12, .box [(.s (List.map c_api_Page s1.2.2.2.2.2.1)), (.s (List.map c_api_Page s1.2.2.2.2.2.2.1)), (vb s1.2.2.2.2.2.2.2)]), (15, .box [(.s (List.map c_api_Page x5.1.Synced)), (.s (List.map c_api_Page x5.1.Loose)), (vb x5.1.Down)])]) ⟨Le.refl _, Le.refl _, Le.refl _, Le.refl _, Le.refl _, Le.refl _, Le.refl _, Le.refl _, Le.refl _, Le.refl _, True.intro⟩ ⟨⟨_, rfl, .refl _⟩, ⟨_, rfl, .refl _⟩, ⟨_, rfl, .refl _⟩, True.intro⟩ rfl) ?_
          refine Ok.seq ?_
          refine Ok.region Try.tok ?_
          refine ⟨_, rfl, ⟨_, rfl, ?_⟩⟩
          refine Ok.wk (Wk.tab (L := [(1, (.s (List.map c_law04_Act p_l))), (2, (vu p_keep)), (3, (vi p_at)), (9, (vb x1)), (11, (.b 11 0)), (12, (.b 12 0)), (13, (vi s1.1)), (14, (vi s1.2.1)), (16, (vi x5.2))]) (H' := [(11, .box [(.s (List.map c_api_Page x5.1.Synced)), (.s (List.map c_api_Page x5.1.Loose)), (vb x5.1.Down)]), (12, .box [(.s (List.map c_api_Page s1.2.2.2.2.2.1)), (.s (List.map c_api_Page s1.2.2.2.2.2.2.1)), (vb s1.2.2.2.2.2.2.2)])]) ⟨Le.refl _, Le.refl _, Le.refl _, Le.refl _, Le.refl _, Le.refl _, Le.refl _, Le.refl _, Le.refl _, True.intro⟩ ⟨⟨_, rfl, .refl _⟩, ⟨_, rfl, .refl _⟩, True.intro⟩ rfl) ?_
          refine Ok.seqj (fun v4 => ⟨Cat.tab [(1, (.s (List.map c_law04_Act p_l))), (2, (vu p_keep)), (3, (vi p_at)), (9, (vb x1)), (11, (.b 11 0)), (12, (.b 12 0)), (13, (vi s1.1)), (14, (vi s1.2.1)), (16, (vi x5.2))], [(11, .box [(.s (List.map c_api_Page x5.1.Synced)), (.s (List.map c_api_Page x5.1.Loose)), (vb x5.1.Down)]), (12, .box [(.s (List.map c_api_Page v4.1)), (.s (List.map c_api_Page v4.2.1)), (vb v4.2.2)])]⟩) (fun v4 => law04_DiskFirst_J3 x5 s1 v4 = some y1) ?_ ?_
          · obtain ⟨v5, hv5, hB1⟩ := bindS hB1
            refine Ok.seqw ⟨Cat.tab [(1, (.s (List.map c_law04_Act p_l))), (2, (vu p_keep)), (3, (vi p_at)), (9, (vb x1)), (11, (.b 11 0)), (12, (.b 12 0)), (13, (vi s1.1)), (14, (vi s1.2.1)), (16, (vi x5.2)), (78, (vb v5))], [(11, .box [(.s (List.map c_api_Page x5.1.Synced)), (.s (List.map c_api_Page x5.1.Loose)), (vb x5.1.Down)]), (12, .box [(.s (List.map c_api_Page s1.2.2.2.2.2.1)), (.s (List.map c_api_Page s1.2.2.2.2.2.2.1)), (vb s1.2.2.2.2.2.2.2)])]⟩ ?_ ?_
            · refine Ok.region Try.tok ?_
              obtain ⟨c4, hg7, hv5⟩ := bindS hv5
              refine Br.ite hg7 (fun hb hg7 => ?_) fun hb hg7 => ?_
              · refine ⟨_, wrap_of_u8 (k := .i64) (by decide) _, ?_⟩
                cases hg7
                cases hv5
                exact Wk.tab ⟨Le.refl _, Le.refl _, Le.refl _, Le.refl _, Le.refl _, Le.refl _, Le.refl _, Le.refl _, Le.refl _, Le.refl _, True.intro⟩ ⟨⟨_, rfl, .refl _⟩, ⟨_, rfl, .refl _⟩, True.intro⟩ rfl
              · cases hg7
                cases hv5
                exact Wk.tab ⟨Le.refl _, Le.refl _, Le.refl _, Le.refl _, Le.refl _, Le.refl _, Le.refl _, Le.refl _, Le.refl _, Le.refl _, True.intro⟩ ⟨⟨_, rfl, .refl _⟩, ⟨_, rfl, .refl _⟩, True.intro⟩ rfl
            refine Ok.cond (d := 78) (b := v5) rfl hB1 (fun hb hB1 => ?_) fun hb hB1 => ?_
            · refine Ok.seq ?_
              refine Ok.draw2 (m := 16) (late := [14]) Try.tok Try.mixed (by kernel_rfl) ?_
              obtain ⟨x6, hx6, hB1⟩ := bindS hB1
              obtain ⟨x7, hx7, hB1⟩ := bindS hB1
              obtain ⟨x8, hx8, hB1⟩ := bindS hB1
              refine ⟨_, ⟨_, rfl, rfl⟩, ⟨_, rfl, ⟨_, rfl, ⟨_, ⟨_, idx_nat hx6, _, idx_row hx6, rfl⟩, ⟨_, rfl, ⟨_, ⟨_, rfl, rfl⟩, ⟨_, rfl, ⟨_, rfl, ⟨_, ⟨_, idx_nat hx7, _, idx_row hx7, rfl⟩, ⟨_, rfl, ⟨_, ⟨_, rfl, rfl⟩, ⟨_, ⟨_, .of_pure (w_disk_Write hx8) (LeL.refl _), rfl⟩, ⟨_, rfl, ⟨_, rfl, ⟨_, rfl, ?_⟩⟩⟩⟩⟩⟩⟩⟩⟩⟩⟩⟩⟩⟩⟩
              refine ⟨_, rfl, ⟨⟨⟨_, rfl, rfl⟩, True.intro⟩, ?_⟩⟩
              refine Ok.wk (Wk.tab (L := [(1, (.s (List.map c_law04_Act p_l))), (2, (vu p_keep)), (3, (vi p_at)), (9, (vb x1)), (11, (.b 11 0)), (12, (.b 12 0)), (13, (vi s1.1)), (14, (vi s1.2.1)), (16, (vi x5.2)), (17, (.b 17 0)), (18, (vi x8.2))]) (H' := [(11, .box [(.s (List.map c_api_Page x5.1.Synced)), (.s (List.map c_api_Page x5.1.Loose)), (vb x5.1.Down)]), (12, .box [(.s (List.map c_api_Page s1.2.2.2.2.2.1)), (.s (List.map c_api_Page s1.2.2.2.2.2.2.1)), (vb s1.2.2.2.2.2.2.2)]), (17, .box [(.s (List.map c_api_Page x8.1.Synced)), (.s (List.map c_api_Page x8.1.Loose)), (vb x8.1.Down)])]) ⟨Le.refl _, Le.refl _, Le.refl _, Le.refl _, Le.refl _, Le.refl _, Le.refl _, Le.refl _, Le.refl _, Le.refl _, Le.refl _, True.intro⟩ ⟨⟨_, rfl, .refl _⟩, ⟨_, rfl, .refl _⟩, ⟨_, rfl, .refl _⟩, True.intro⟩ rfl) ?_
              refine Ok.seq ?_
              refine Ok.seq ?_
              refine Ok.region Try.tok ?_
              refine Ok.wk (Wk.tab (L := [(1, (.s (List.map c_law04_Act p_l))), (2, (vu p_keep)), (3, (vi p_at)), (9, (vb x1)), (11, (.b 11 0)), (12, (.b 12 0)), (13, (vi s1.1)), (14, (vi s1.2.1)), (16, (vi x5.2)), (17, (.b 17 0)), (95, (vb ((x8.2 != 0))))]) (H' := [(11, .box [(.s (List.map c_api_Page x5.1.Synced)), (.s (List.map c_api_Page x5.1.Loose)), (vb x5.1.Down)]), (12, .box [(.s (List.map c_api_Page s1.2.2.2.2.2.1)), (.s (List.map c_api_Page s1.2.2.2.2.2.2.1)), (vb s1.2.2.2.2.2.2.2)]), (17, .box [(.s (List.map c_api_Page x8.1.Synced)), (.s (List.map c_api_Page x8.1.Loose)), (vb x8.1.Down)])]) ⟨Le.refl _, Le.refl _, Le.refl _, Le.refl _, Le.refl _, Le.refl _, Le.refl _, Le.refl _, Le.refl _, Le.refl _, Le.refl _, True.intro⟩ ⟨⟨_, rfl, .refl _⟩, ⟨_, rfl, .refl _⟩, ⟨_, rfl, .refl _⟩, True.intro⟩ rfl) ?_
              refine Ok.cond (d := 95) (b := (x8.2 != 0)) rfl hB1 (fun hb hB1 => ?_) fun hb hB1 => ?_
              · refine Ok.seq ?_
                refine Ok.region Try.tok ?_
                refine Ok.wk (Wk.tab (L := [(8, (vb false))]) (H' := []) ⟨Le.refl _, True.intro⟩ True.intro rfl) ?_
                refine Ok.ret ?_
                have hB1 := out_ret hB1 hy1
                cases hB1
                exact Fz.v
              · refine Ok.skip ?_
                refine Ok.region Try.tok ?_
                refine ⟨_, rfl, ⟨_, rfl, ?_⟩⟩
                exact ⟨_, hB1, Wk.tab ⟨Le.refl _, Le.refl _, Le.refl _, Le.refl _, Le.refl _, Le.refl _, Le.refl _, Le.refl _, Le.refl _, True.intro⟩ ⟨⟨_, rfl, .refl _⟩, ⟨_, rfl, .refl _⟩, True.intro⟩ rfl⟩
            · refine Ok.skip ?_
              exact ⟨_, hB1, Wk.tab ⟨Le.refl _, Le.refl _, Le.refl _, Le.refl _, Le.refl _, Le.refl _, Le.refl _, Le.refl _, Le.refl _, True.intro⟩ ⟨⟨_, rfl, .refl _⟩, ⟨_, rfl, .refl _⟩, True.intro⟩ rfl⟩
          intro v4 hB1
          unfold law04_DiskFirst_J3 at hB1
          refine Ok.seq ?_
          refine Ok.region Try.tok ?_
          refine Ok.wk (Wk.tab (L := [(1, (.s (List.map c_law04_Act p_l))), (2, (vu p_keep)), (3, (vi p_at)), (9, (vb x1)), (11, (.b 11 0)), (12, (.b 12 0)), (13, (vi s1.1)), (14, (vi s1.2.1)), (98, (vb ((x5.2 == 0))))]) (H' := [(11, .box [(.s (List.map c_api_Page x5.1.Synced)), (.s (List.map c_api_Page x5.1.Loose)), (vb x5.1.Down)]), (12, .box [(.s (List.map c_api_Page v4.1)), (.s (List.map c_api_Page v4.2.1)), (vb v4.2.2)])]) ⟨Le.refl _, Le.refl _, Le.refl _, Le.refl _, Le.refl _, Le.refl _, Le.refl _, Le.refl _, Le.refl _, True.intro⟩ ⟨⟨_, rfl, .refl _⟩, ⟨_, rfl, .refl _⟩, True.intro⟩ rfl) ?_
          refine Ok.cond (d := 98) (b := (x5.2 == 0)) rfl hB1 (fun hb hB1 => ?_) fun hb hB1 => ?_
          · refine Ok.region Try.tok ?_
            obtain ⟨hc1, hB1⟩ := chk_some hB1
            refine (Or.inl ⟨hc1, ?_⟩)
            exact ⟨_, hB1, Wk.tab ⟨Le.refl _, Le.refl _, Le.refl _, Le.refl _, Le.refl _, Le.refl _, Le.refl _, Le.refl _, True.intro⟩ ⟨⟨_, rfl, .refl _⟩, ⟨_, rfl, .refl _⟩, True.intro⟩ rfl⟩
          · refine Ok.skip ?_
            exact ⟨_, hB1, Wk.tab ⟨Le.refl _, Le.refl _, Le.refl _, Le.refl _, Le.refl _, Le.refl _, Le.refl _, Le.refl _, True.intro⟩ ⟨⟨_, rfl, .refl _⟩, ⟨_, rfl, .refl _⟩, True.intro⟩ rfl⟩
        intro v3 hB1
        unfold law04_DiskFirst_J2 at hB1
        refine Ok.region Try.tok ?_
        obtain ⟨hc2, hB1⟩ := chk_some hB1
        refine (Or.inl ⟨hc2, ?_⟩)
        exact ⟨_, (Option.some.inj hB1).symm, Wk.tab ⟨Le.refl _, Le.refl _, Le.refl _, Le.refl _, Le.refl _, Le.refl _, Le.refl _, Le.refl _, True.intro⟩ ⟨⟨_, rfl, .refl _⟩, ⟨_, rfl, .refl _⟩, True.intro⟩ rfl⟩
      · refine Ok.exit ?_
        have hB1 := out_ret hB1 hy1
        exact ⟨_, hB1, Wk.tab ⟨Le.refl _, Le.refl _, Le.refl _, Le.refl _, Le.refl _, True.intro⟩ ⟨⟨_, rfl, .refl _⟩, ⟨_, rfl, .refl _⟩, True.intro⟩ rfl⟩
    intro v2 h
    unfold law04_DiskFirst_J1 at h
    refine Ok.seq ?_
    refine Ok.region Try.tok ?_
    obtain ⟨x9, hx9, h⟩ := bindS h
    refine ⟨_, rfl, ?_⟩
    refine CallOk.call (w_disk_Sync hx9) (LeL.refl _) ?_
    refine ⟨_, rfl, ?_⟩
    refine Ok.wk (Wk.tab (L := [(2, (vu p_keep)), (3, (vi p_at)), (9, (vb x1)), (11, (.b 11 0)), (19, (.b 19 0)), (20, (vi x9.2))]) (H' := [(11, .box [(.s (List.map c_api_Page v2.1)), (.s (List.map c_api_Page v2.2.1)), (vb v2.2.2.1)]), (19, .box [(.s (List.map c_api_Page x9.1.Synced)), (.s (List.map c_api_Page x9.1.Loose)), (vb x9.1.Down)])]) ⟨Le.refl _, Le.refl _, Le.refl _, Le.refl _, Le.refl _, Le.refl _, True.intro⟩ ⟨⟨_, rfl, .refl _⟩, ⟨_, rfl, .refl _⟩, True.intro⟩ rfl) ?_
    refine Ok.seq ?_
    refine Ok.region Try.tok ?_
    obtain ⟨x10, hx10, h⟩ := bindS h
    refine ⟨_, rfl, ⟨_, wrap_of_u8 (k := .i64) (by decide) _, ?_⟩⟩
    refine CallOk.call (w_disk_Crash hx10) (LeL.refl _) ?_
    obtain ⟨x11, hx11, h⟩ := bindS h
    refine CallOk.call (w_disk_Up hx11) (LeL.refl _) ?_
    obtain ⟨x12, hx12, h⟩ := bindS h
    refine CallOk.call (w_disk_Read hx12) (LeL.refl _) ?_
    refine Ok.wk (Wk.tab (L := [(3, (vi p_at)), (9, (vb x1)), (19, (.b 19 0)), (20, (vi x9.2)), (21, (.s (List.map cU8 x12.1))), (22, (vi x12.2))]) (H' := [(19, .box [(.s (List.map c_api_Page x9.1.Synced)), (.s (List.map c_api_Page x9.1.Loose)), (vb x9.1.Down)])]) ⟨Le.refl _, Le.refl _, Le.refl _, Le.refl _, Le.refl _, Le.refl _, True.intro⟩ ⟨⟨_, rfl, .refl _⟩, True.intro⟩ rfl) ?_
    refine Ok.seq ?_
    refine Ok.region Try.tok ?_
    obtain ⟨x13, hx13, h⟩ := bindS h
    refine ⟨_, rfl, ?_⟩
    refine CallOk.call (w_disk_Read hx13) (LeL.refl _) ?_
    refine Ok.wk (Wk.tab (L := [(9, (vb x1)), (20, (vi x9.2)), (21, (.s (List.map cU8 x12.1))), (22, (vi x12.2)), (23, (.s (List.map cU8 x13.1))), (24, (vi x13.2))]) (H' := []) ⟨Le.refl _, Le.refl _, Le.refl _, Le.refl _, Le.refl _, Le.refl _, True.intro⟩ True.intro rfl) ?_
    refine Ok.seq ?_
    refine Ok.region Try.tok ?_
    obtain ⟨x14, hx14, h⟩ := bindS h
    refine CallOk.call (w_ref04_Bytes hx14) (LeL.refl _) ?_
    refine Ok.wk (Wk.tab (L := [(9, (vb x1)), (20, (vi x9.2)), (22, (vi x12.2)), (24, (vi x13.2)), (25, (vb x14))]) (H' := []) ⟨Le.refl _, Le.refl _, Le.refl _, Le.refl _, Le.refl _, True.intro⟩ True.intro rfl) ?_
    obtain ⟨v6, hv6, h⟩ := bindS h
    refine Ok.seqw ⟨Cat.tab [(8, (vb v6))], []⟩ ?_ ?_
    · refine Ok.region Try.tok ?_
      obtain ⟨c5, hg8, hv6⟩ := bindS hv6
      refine Br.ite hg8 (fun hb hg8 => ?_) fun hb hg8 => ?_
      · cases hg8
        obtain ⟨c6, hg9, hv6⟩ := bindS hv6
        refine Br.ite hg9 (fun hb hg9 => ?_) fun hb hg9 => ?_
        · cases hg9
          obtain ⟨c7, hg10, hv6⟩ := bindS hv6
          refine Br.ite hg10 (fun hb hg10 => ?_) fun hb hg10 => ?_
          · cases hg10
            cases hv6
            exact Wk.tab ⟨Le.refl _, True.intro⟩ True.intro rfl
          · cases hg10
            cases hv6
            exact Wk.tab ⟨Le.refl _, True.intro⟩ True.intro rfl
        · cases hg9
          obtain ⟨c7, hg11, hv6⟩ := bindS hv6
          replace hg11 := iteF hg11
          cases hg11
          cases hv6
          exact Wk.tab ⟨Le.refl _, True.intro⟩ True.intro rfl
      · cases hg8
        obtain ⟨c6, hg12, hv6⟩ := bindS hv6
        replace hg12 := iteF hg12
        cases hg12
        obtain ⟨c7, hg13, hv6⟩ := bindS hv6
        replace hg13 := iteF hg13
        cases hg13
        cases hv6
        exact Wk.tab ⟨Le.refl _, True.intro⟩ True.intro rfl
    refine Ok.ret ?_
    cases h
    exact Fz.v

end Go.Proofs
