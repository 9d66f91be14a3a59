/- The walks of this seat beside the plain programs, part 1. No condition. -/
import Derived.Test.YtlhgbjgfnihijaaXDiskRotEn
import Derived.Test.YtlhgbjgfnihijaaXDiskRotWk0
namespace Go.Proofs
set_option linter.all false
open Go Go.Cat
variable [M : Mono]
set_option maxRecDepth 100000

theorem w_law04_DiskRot [Off] {p_d : api_Disk} {p_at : Int} {p_bit : Int} {p_other : Int} {r : Bool} (h : law04_DiskRot p_d p_at p_bit p_other = some r) : Pure Try.prog 7 [(.a [(.s (List.map c_api_Page p_d.Synced)), (.s (List.map c_api_Page p_d.Loose)), (vb p_d.Down)]), (vi p_at), (vi p_bit), (vi p_other)] (vb r) := by
  refine pure_of_ok (n := 168) (c := (Try.f7.body.getD .skip)) Try.tok Try.func7 (by kernel_rfl) rfl rfl (Nat.le_of_ble_eq_true rfl) ?_
  unfold law04_DiskRot at h
  refine Ok.wk (Wk.tab (L := [(0, (.a [(.s (List.map c_api_Page p_d.Synced)), (.s (List.map c_api_Page p_d.Loose)), (vb p_d.Down)])), (1, (vi p_at)), (2, (vi p_bit)), (3, (vi p_other))]) (H' := []) ⟨Le.refl _, Le.refl _, Le.refl _, Le.refl _, True.intro⟩ True.intro rfl) ?_
  refine Ok.seq ?_
  refine Ok.region Try.tok ?_
  refine Ok.wk (Wk.tab (L := [(1, (vi p_at)), (2, (vi p_bit)), (3, (vi p_other)), (4, (.b 4 0))]) (H' := [(4, .box [(.s (List.map c_api_Page p_d.Synced)), (.s (List.map c_api_Page p_d.Loose)), (vb p_d.Down)])]) ⟨Le.refl _, Le.refl _, Le.refl _, Le.refl _, True.intro⟩ ⟨⟨_, rfl, .refl _⟩, True.intro⟩ rfl) ?_
  refine Ok.seq ?_
  refine Ok.region Try.tok ?_
  obtain ⟨x1, hx1, h⟩ := bindS h
  refine CallOk.call (w_law04_head hx1) (LeL.refl _) ?_
  refine Ok.wk (Wk.tab (L := [(1, (vi p_at)), (2, (vi p_bit)), (3, (vi p_other)), (4, (.b 4 0)), (9, (vb x1))]) (H' := [(4, .box [(.s (List.map c_api_Page p_d.Synced)), (.s (List.map c_api_Page p_d.Loose)), (vb p_d.Down)])]) ⟨Le.refl _, Le.refl _, Le.refl _, Le.refl _, Le.refl _, True.intro⟩ ⟨⟨_, rfl, .refl _⟩, True.intro⟩ rfl) ?_
  refine Ok.seq ?_
  refine Ok.region Try.tok ?_
  obtain ⟨x2, hx2, h⟩ := bindS h
  refine ⟨_, rfl, ?_⟩
  refine CallOk.call (w_law04_Fits hx2) (LeL.refl _) ?_
  refine Ok.wk (Wk.tab (L := [(1, (vi p_at)), (2, (vi p_bit)), (3, (vi p_other)), (4, (.b 4 0)), (9, (vb x1)), (10, (vb x2))]) (H' := [(4, .box [(.s (List.map c_api_Page p_d.Synced)), (.s (List.map c_api_Page p_d.Loose)), (vb p_d.Down)])]) ⟨Le.refl _, Le.refl _, Le.refl _, Le.refl _, Le.refl _, Le.refl _, True.intro⟩ ⟨⟨_, rfl, .refl _⟩, True.intro⟩ rfl) ?_
  refine Ok.seq ?_
  obtain ⟨v1, hv1, h⟩ := bindS h
  refine Ok.seqw ⟨Cat.tab [(1, (vi p_at)), (2, (vi p_bit)), (3, (vi p_other)), (4, (.b 4 0)), (9, (vb x1)), (35, (vb v1))], [(4, .box [(.s (List.map c_api_Page p_d.Synced)), (.s (List.map c_api_Page p_d.Loose)), (vb p_d.Down)])]⟩ ?_ ?_
  · refine Ok.region Try.tok ?_
    obtain ⟨c1, hg1, hv1⟩ := bindS hv1
    refine Br.itf hg1 (fun hb hg1 => ?_) fun hb hg1 => ?_
    · cases hg1
      cases hv1
      exact Wk.tab ⟨Le.refl _, Le.refl _, Le.refl _, Le.refl _, Le.refl _, Le.refl _, True.intro⟩ ⟨⟨_, rfl, .refl _⟩, True.intro⟩ rfl
    · refine ⟨_, rfl, ?_⟩
      cases hg1
      cases hv1
      exact Wk.tab ⟨Le.refl _, Le.refl _, Le.refl _, Le.refl _, Le.refl _, Le.refl _, True.intro⟩ ⟨⟨_, rfl, .refl _⟩, True.intro⟩ rfl
  refine Ok.cond (d := 35) (b := v1) rfl h (fun hb h => ?_) fun hb h => ?_
  · refine Ok.seq ?_
    refine Ok.region Try.tok ?_
    refine Ok.wk (Wk.tab (L := [(8, (vb x1))]) (H' := []) ⟨Le.refl _, True.intro⟩ True.intro rfl) ?_
    refine Ok.ret ?_
    cases h
    exact Fz.v
  · refine Ok.skip ?_
    refine Ok.seq ?_
    refine Ok.region Try.tok ?_
    obtain ⟨x3, hx3, h⟩ := bindS h
    refine ⟨_, rfl, ?_⟩
    refine CallOk.call (w_disk_Read hx3) (LeL.refl _) ?_
    refine Ok.wk (Wk.tab (L := [(1, (vi p_at)), (2, (vi p_bit)), (3, (vi p_other)), (4, (.b 4 0)), (9, (vb x1)), (11, (.s (List.map cU8 x3.1))), (12, (vi x3.2))]) (H' := [(4, .box [(.s (List.map c_api_Page p_d.Synced)), (.s (List.map c_api_Page p_d.Loose)), (vb p_d.Down)])]) ⟨Le.refl _, Le.refl _, Le.refl _, Le.refl _, Le.refl _, Le.refl _, Le.refl _, True.intro⟩ ⟨⟨_, rfl, .refl _⟩, True.intro⟩ rfl) ?_
    refine Ok.seq ?_
    refine Ok.region Try.tok ?_
    obtain ⟨x4, hx4, h⟩ := bindS h
    refine ⟨_, rfl, ?_⟩
    refine CallOk.call (w_disk_Rot hx4) (LeL.refl _) ?_
    refine ⟨_, rfl, ?_⟩
    refine Ok.wk (Wk.tab (L := [(1, (vi p_at)), (2, (vi p_bit)), (3, (vi p_other)), (4, (.b 4 0)), (9, (vb x1)), (11, (.s (List.map cU8 x3.1))), (12, (vi x3.2)), (13, (.b 13 0))]) (H' := [(4, .box [(.s (List.map c_api_Page p_d.Synced)), (.s (List.map c_api_Page p_d.Loose)), (vb p_d.Down)]), (13, .box [(.s (List.map c_api_Page x4.Synced)), (.s (List.map c_api_Page x4.Loose)), (vb x4.Down)])]) ⟨Le.refl _, Le.refl _, Le.refl _, Le.refl _, Le.refl _, Le.refl _, Le.refl _, Le.refl _, True.intro⟩ ⟨⟨_, rfl, .refl _⟩, ⟨_, rfl, .refl _⟩, True.intro⟩ rfl) ?_
    refine Ok.seq ?_
    refine Ok.region Try.tok ?_
    obtain ⟨x5, hx5, h⟩ := bindS h
    refine ⟨_, rfl, ?_⟩
    refine CallOk.call (w_disk_Read hx5) (LeL.refl _) ?_
    refine Ok.wk (Wk.tab (L := [(1, (vi p_at)), (2, (vi p_bit)), (3, (vi p_other)), (4, (.b 4 0)), (9, (vb x1)), (11, (.s (List.map cU8 x3.1))), (12, (vi x3.2)), (13, (.b 13 0)), (14, (.s (List.map cU8 x5.1))), (15, (vi x5.2))]) (H' := [(4, .box [(.s (List.map c_api_Page p_d.Synced)), (.s (List.map c_api_Page p_d.Loose)), (vb p_d.Down)]), (13, .box [(.s (List.map c_api_Page x4.Synced)), (.s (List.map c_api_Page x4.Loose)), (vb x4.Down)])]) ⟨Le.refl _, Le.refl _, Le.refl _, Le.refl _, Le.refl _, Le.refl _, Le.refl _, Le.refl _, Le.refl _, Le.refl _, True.intro⟩ ⟨⟨_, rfl, .refl _⟩, ⟨_, rfl, .refl _⟩, True.intro⟩ rfl) ?_
    refine Ok.seq ?_
    refine Ok.region Try.tok ?_
    obtain ⟨x6, hx6, h⟩ := bindS h
    refine ⟨_, rfl, ?_⟩
    refine CallOk.call (w_disk_Rot hx6) (LeL.refl _) ?_
    refine ⟨_, rfl, ?_⟩
    refine Ok.wk (Wk.tab (L := [(1, (vi p_at)), (2, (vi p_bit)), (3, (vi p_other)), (4, (.b 4 0)), (9, (vb x1)), (11, (.s (List.map cU8 x3.1))), (12, (vi x3.2)), (13, (.b 13 0)), (14, (.s (List.map cU8 x5.1))), (15, (vi x5.2)), (16, (.b 16 0))]) (H' := [(4, .box [(.s (List.map c_api_Page p_d.Synced)), (.s (List.map c_api_Page p_d.Loose)), (vb p_d.Down)]), (13, .box [(.s (List.map c_api_Page x4.Synced)), (.s (List.map c_api_Page x4.Loose)), (vb x4.Down)]), (16, .box [(.s (List.map c_api_Page x6.Synced)), (.s (List.map c_api_Page x6.Loose)), (vb x6.Down)])]) ⟨Le.refl _, Le.refl _, Le.refl _, Le.refl _, Le.refl _, Le.refl _, Le.refl _, Le.refl _, Le.refl _, Le.refl _, Le.refl _, True.intro⟩ ⟨⟨_, rfl, .refl _⟩, ⟨_, rfl, .refl _⟩, ⟨_, rfl, .refl _⟩, True.intro⟩ rfl) ?_
    refine Ok.seq ?_
    refine Ok.region Try.tok ?_
    obtain ⟨x7, hx7, h⟩ := bindS h
    refine ⟨_, rfl, ⟨_, rfl, ?_⟩⟩
    refine CallOk.call (w_ref04_Same hx7) (LeL.refl _) ?_
    refine Ok.wk (Wk.tab (L := [(1, (vi p_at)), (2, (vi p_bit)), (3, (vi p_other)), (4, (.b 4 0)), (9, (vb x1)), (11, (.s (List.map cU8 x3.1))), (12, (vi x3.2)), (13, (.b 13 0)), (14, (.s (List.map cU8 x5.1))), (15, (vi x5.2)), (17, (vb x7))]) (H' := [(4, .box [(.s (List.map c_api_Page p_d.Synced)), (.s (List.map c_api_Page p_d.Loose)), (vb p_d.Down)]), (13, .box [(.s (List.map c_api_Page x4.Synced)), (.s (List.map c_api_Page x4.Loose)), (vb x4.Down)])]) ⟨Le.refl _, Le.refl _, Le.refl _, Le.refl _, Le.refl _, Le.refl _, Le.refl _, Le.refl _, Le.refl _, Le.refl _, Le.refl _, True.intro⟩ ⟨⟨_, rfl, .refl _⟩, ⟨_, rfl, .refl _⟩, True.intro⟩ rfl) ?_
    refine Ok.seq ?_
    refine Ok.region Try.tok ?_
    obtain ⟨x8, hx8, h⟩ := bindS h
    refine ⟨_, rfl, ?_⟩
    refine CallOk.call (w_disk_Read hx8) (LeL.refl _) ?_
    refine Ok.wk (Wk.tab (L := [(1, (vi p_at)), (2, (vi p_bit)), (3, (vi p_other)), (4, (.b 4 0)), (9, (vb x1)), (11, (.s (List.map cU8 x3.1))), (12, (vi x3.2)), (13, (.b 13 0)), (14, (.s (List.map cU8 x5.1))), (15, (vi x5.2)), (17, (vb x7)), (18, (.s (List.map cU8 x8.1))), (19, (vi x8.2))]) (H' := [(4, .box [(.s (List.map c_api_Page p_d.Synced)), (.s (List.map c_api_Page p_d.Loose)), (vb p_d.Down)]), (13, .box [(.s (List.map c_api_Page x4.Synced)), (.s (List.map c_api_Page x4.Loose)), (vb x4.Down)])]) ⟨Le.refl _, Le.refl _, Le.refl _, Le.refl _, Le.refl _, Le.refl _, Le.refl _, Le.refl _, Le.refl _, Le.refl _, Le.refl _, Le.refl _, Le.refl _, True.intro⟩ ⟨⟨_, rfl, .refl _⟩, ⟨_, rfl, .refl _⟩, True.intro⟩ rfl) ?_
    refine Ok.seq ?_
    refine Ok.region Try.tok ?_
    obtain ⟨x9, hx9, h⟩ := bindS h
    refine ⟨_, rfl, ?_⟩
    refine CallOk.call (w_disk_Read hx9) (LeL.refl _) ?_
    refine Ok.wk (Wk.tab (L := [(1, (vi p_at)), (2, (vi p_bit)), (3, (vi p_other)), (4, (.b 4 0)), (9, (vb x1)), (11, (.s (List.map cU8 x3.1))), (12, (vi x3.2)), (14, (.s (List.map cU8 x5.1))), (15, (vi x5.2)), (17, (vb x7)), (18, (.s (List.map cU8 x8.1))), (19, (vi x8.2)), (20, (.s (List.map cU8 x9.1))), (21, (vi x9.2))]) (H' := [(4, .box [(.s (List.map c_api_Page p_d.Synced)), (.s (List.map c_api_Page p_d.Loose)), (vb p_d.Down)])]) ⟨Le.refl _, Le.refl _, Le.refl _, Le.refl _, Le.refl _, Le.refl _, Le.refl _, Le.refl _, Le.refl _, Le.refl _, Le.refl _, Le.refl _, Le.refl _, Le.refl _, True.intro⟩ ⟨⟨_, rfl, .refl _⟩, True.intro⟩ rfl) ?_
    refine Ok.seq ?_
    refine Ok.region Try.tok ?_
    obtain ⟨x10, hx10, h⟩ := bindS h
    refine CallOk.call (w_ref04_Bytes hx10) (LeL.refl _) ?_
    refine Ok.wk (Wk.tab (L := [(1, (vi p_at)), (2, (vi p_bit)), (3, (vi p_other)), (4, (.b 4 0)), (9, (vb x1)), (11, (.s (List.map cU8 x3.1))), (12, (vi x3.2)), (14, (.s (List.map cU8 x5.1))), (15, (vi x5.2)), (17, (vb x7)), (19, (vi x8.2)), (21, (vi x9.2)), (22, (vb x10))]) (H' := [(4, .box [(.s (List.map c_api_Page p_d.Synced)), (.s (List.map c_api_Page p_d.Loose)), (vb p_d.Down)])]) ⟨Le.refl _, Le.refl _, Le.refl _, Le.refl _, Le.refl _, Le.refl _, Le.refl _, Le.refl _, Le.refl _, Le.refl _, Le.refl _, Le.refl _, Le.refl _, True.intro⟩ ⟨⟨_, rfl, .refl _⟩, True.intro⟩ rfl) ?_
    refine Ok.seq ?_
    obtain ⟨v2, hv2, h⟩ := bindS h
    refine Ok.seqw ⟨Cat.tab [(1, (vi p_at)), (2, (vi p_bit)), (4, (.b 4 0)), (9, (vb x1)), (11, (.s (List.map cU8 x3.1))), (12, (vi x3.2)), (14, (.s (List.map cU8 x5.1))), (102, (vb v2))], [(4, .box [(.s (List.map c_api_Page p_d.Synced)), (.s (List.map c_api_Page p_d.Loose)), (vb p_d.Down)])]⟩ ?_ ?_
    · refine Ok.region Try.tok ?_
      obtain ⟨c2, hg2, hv2⟩ := bindS hv2
      refine Br.itf hg2 (fun hb hg2 => ?_) fun hb hg2 => ?_
      · cases hg2
        obtain ⟨c3, hg3, hv2⟩ := bindS hv2
        replace hg3 := iteT hg3
        cases hg3
        obtain ⟨c4, hg4, hv2⟩ := bindS hv2
        replace hg4 := iteT hg4
        cases hg4
        obtain ⟨c6, hg5, hv2⟩ := bindS hv2
        replace hg5 := iteT hg5
        cases hg5
        cases hv2
        exact Wk.tab ⟨Le.refl _, Le.refl _, Le.refl _, Le.refl _, Le.refl _, Le.refl _, Le.refl _, Le.refl _, True.intro⟩ ⟨⟨_, rfl, .refl _⟩, True.intro⟩ rfl
      · cases hg2
        obtain ⟨c3, hg6, hv2⟩ := bindS hv2
        refine Br.itf hg6 (fun hb hg6 => ?_) fun hb hg6 => ?_
        · cases hg6
          obtain ⟨c4, hg7, hv2⟩ := bindS hv2
          replace hg7 := iteT hg7
          cases hg7
          obtain ⟨c6, hg8, hv2⟩ := bindS hv2
          replace hg8 := iteT hg8
          cases hg8
          cases hv2
          exact Wk.tab ⟨Le.refl _, Le.refl _, Le.refl _, Le.refl _, Le.refl _, Le.refl _, Le.refl _, Le.refl _, True.intro⟩ ⟨⟨_, rfl, .refl _⟩, True.intro⟩ rfl
        · cases hg6
          obtain ⟨c4, hg9, hv2⟩ := bindS hv2
          refine Br.itf hg9 (fun hb hg9 => ?_) fun hb hg9 => ?_
          · cases hg9
            obtain ⟨c6, hg10, hv2⟩ := bindS hv2
            replace hg10 := iteT hg10
            cases hg10
            cases hv2
            exact Wk.tab ⟨Le.refl _, Le.refl _, Le.refl _, Le.refl _, Le.refl _, Le.refl _, Le.refl _, Le.refl _, True.intro⟩ ⟨⟨_, rfl, .refl _⟩, True.intro⟩ rfl
          · refine ⟨_, List.length_map _, fun _ => ⟨_, List.length_map _, fun _ => ?_⟩⟩
            cases hg9
            obtain ⟨c6, hg11, hv2⟩ := bindS hv2
            refine Br.itf hg11 (fun hb hg11 => ?_) fun hb hg11 => ?_
            · cases hg11
              cases hv2
              exact Wk.tab ⟨Le.refl _, Le.refl _, Le.refl _, Le.refl _, Le.refl _, Le.refl _, Le.refl _, Le.refl _, True.intro⟩ ⟨⟨_, rfl, .refl _⟩, True.intro⟩ rfl
            · obtain ⟨c5, hg12, hg11⟩ := bindS hg11
              refine Br.ite hg12 (fun hb hg12 => ?_) fun hb hg12 => ?_
              · cases hg12
                cases hg11
                cases hv2
                exact Wk.tab ⟨Le.refl _, Le.refl _, Le.refl _, Le.refl _, Le.refl _, Le.refl _, Le.refl _, Le.refl _, True.intro⟩ ⟨⟨_, rfl, .refl _⟩, True.intro⟩ rfl
              · cases hg12
                cases hg11
                cases hv2
                exact Wk.tab ⟨Le.refl _, Le.refl _, Le.refl _, Le.refl _, Le.refl _, Le.refl _, Le.refl _, Le.refl _, True.intro⟩ ⟨⟨_, rfl, .refl _⟩, True.intro⟩ rfl
    refine Ok.cond (d := 102) (b := v2) rfl h (fun hb h => ?_) fun hb h => ?_
    · refine Ok.seq ?_
      refine Ok.region Try.tok ?_
      refine Ok.wk (Wk.tab (L := [(8, (vb false))]) (H' := []) ⟨Le.refl _, True.intro⟩ True.intro rfl) ?_
      refine Ok.ret ?_
      cases h
      exact Fz.v
    · refine Ok.skip ?_
      refine Ok.seq ?_
      refine Ok.region Try.tok ?_
      refine Ok.wk (Wk.tab (L := [(1, (vi p_at)), (2, (vi p_bit)), (4, (.b 4 0)), (9, (vb x1)), (11, (.s (List.map cU8 x3.1))), (12, (vi x3.2)), (14, (.s (List.map cU8 x5.1))), (23, (vi (0)))]) (H' := [(4, .box [(.s (List.map c_api_Page p_d.Synced)), (.s (List.map c_api_Page p_d.Loose)), (vb p_d.Down)])]) ⟨Le.refl _, Le.refl _, Le.refl _, Le.refl _, Le.refl _, Le.refl _, Le.refl _, Le.refl _, True.intro⟩ ⟨⟨_, rfl, .refl _⟩, True.intro⟩ rfl) ?_
      refine Ok.seqj (fun v3 => ⟨Cat.tab [(1, (vi p_at)), (2, (vi p_bit)), (4, (.b 4 0)), (9, (vb x1)), (11, (.s (List.map cU8 x3.1))), (12, (vi x3.2)), (23, (vi v3))], [(4, .box [(.s (List.map c_api_Page p_d.Synced)), (.s (List.map c_api_Page p_d.Loose)), (vb p_d.Down)])]⟩) (fun v3 => law04_DiskRot_J1 p_d p_at x3 p_bit x1 v3 = some r) ?_ ?_
      · refine Ok.seq ?_
        refine Ok.region Try.tok ?_
        refine Ok.wk (Wk.tab (L := [(1, (vi p_at)), (2, (vi p_bit)), (4, (.b 4 0)), (9, (vb x1)), (11, (.s (List.map cU8 x3.1))), (12, (vi x3.2)), (14, (.s (List.map cU8 x5.1))), (23, (vi (0))), (24, (vi (0)))]) (H' := [(4, .box [(.s (List.map c_api_Page p_d.Synced)), (.s (List.map c_api_Page p_d.Loose)), (vb p_d.Down)])]) ⟨Le.refl _, Le.refl _, Le.refl _, Le.refl _, Le.refl _, Le.refl _, Le.refl _, Le.refl _, Le.refl _, True.intro⟩ ⟨⟨_, rfl, .refl _⟩, True.intro⟩ rfl) ?_
        refine Ok.block ?_
        refine Ok.loop (fun (s1 : Int × Int) => ⟨Cat.tab [(1, (vi p_at)), (2, (vi p_bit)), (4, (.b 4 0)), (9, (vb x1)), (11, (.s (List.map cU8 x3.1))), (12, (vi x3.2)), (14, (.s (List.map cU8 x5.1))), (23, (vi s1.1)), (24, (vi s1.2))], [(4, .box [(.s (List.map c_api_Page p_d.Synced)), (.s (List.map c_api_Page p_d.Loose)), (vb p_d.Down)])]⟩) (law04_DiskRot_B1 x3 x5 p_bit p_d p_at x1) (s0 := (0, 0)) h (Wk.tab ⟨Le.refl _, Le.refl _, Le.refl _, Le.refl _, Le.refl _, Le.refl _, Le.refl _, Le.refl _, Le.refl _, True.intro⟩ ⟨⟨_, rfl, .refl _⟩, True.intro⟩ rfl) ?_
        intro s1 y1 hB1 hy1
        unfold law04_DiskRot_B1 at hB1
        refine Ok.seq ?_
        refine Ok.seq ?_
        refine Ok.region Try.tok ?_
        refine ⟨_, List.length_map _, fun _ => ?_⟩
        refine Ok.wk (Wk.tab (L := [(1, (vi p_at)), (2, (vi p_bit)), (4, (.b 4 0)), (9, (vb x1)), (11, (.s (List.map cU8 x3.1))), (12, (vi x3.2)), (14, (.s (List.map cU8 x5.1))), (23, (vi s1.1)), (24, (vi s1.2)), (106, (vb ((decide (s1.2 < (x3.1.length : Int))))))]) (H' := [(4, .box [(.s (List.map c_api_Page p_d.Synced)), (.s (List.map c_api_Page p_d.Loose)), (vb p_d.Down)])]) ⟨Le.refl _, Le.refl _, Le.refl _, Le.refl _, Le.refl _, Le.refl _, Le.refl _, Le.refl _, Le.refl _, Le.refl _, True.intro⟩ ⟨⟨_, rfl, .refl _⟩, True.intro⟩ rfl) ?_
        refine Ok.cond (d := 106) (b := (decide (s1.2 < (x3.1.length : Int)))) rfl hB1 (fun hb hB1 => ?_) fun hb hB1 => ?_
        · refine Ok.skip ?_
          refine Ok.seqj (fun v4 => ⟨Cat.tab [(1, (vi p_at)), (2, (vi p_bit)), (4, (.b 4 0)), (9, (vb x1)), (11, (.s (List.map cU8 x3.1))), (12, (vi x3.2)), (14, (.s (List.map cU8 x5.1))), (23, (vi v4)), (24, (vi s1.2))], [(4, .box [(.s (List.map c_api_Page p_d.Synced)), (.s (List.map c_api_Page p_d.Loose)), (vb p_d.Down)])]⟩) (fun v4 => law04_DiskRot_J2 s1 v4 = some y1) ?_ ?_
          · refine Ok.block ?_
            refine Ok.seq ?_
            refine Ok.draw (m := 9) Try.tok Try.mixed (by kernel_rfl) ?_
            obtain ⟨x11, hx11, hB1⟩ := bindS hB1
            obtain ⟨x12, hx12, hB1⟩ := bindS hB1
            refine ⟨_, rfl, ⟨_, rfl, ⟨_, ⟨_, idx_nat hx11, _, idx_row hx11, rfl⟩, ⟨_, ⟨_, rfl, rfl⟩, ⟨_, rfl, ⟨_, rfl, ⟨_, ⟨_, idx_nat hx12, _, idx_row hx12, rfl⟩, ⟨_, ⟨_, rfl, rfl⟩, ⟨_, rfl, ?_⟩⟩⟩⟩⟩⟩⟩⟩⟩
            refine Ok.wk (Wk.tab (L := [(1, (vi p_at)), (2, (vi p_bit)), (4, (.b 4 0)), (9, (vb x1)), (11, (.s (List.map cU8 x3.1))), (12, (vi x3.2)), (14, (.s (List.map cU8 x5.1))), (23, (vi s1.1)), (24, (vi s1.2)), (117, (vb (((x11.toNat : Int) != (x12.toNat : Int)))))]) (H' := [(4, .box [(.s (List.map c_api_Page p_d.Synced)), (.s (List.map c_api_Page p_d.Loose)), (vb p_d.Down)])]) ⟨Le.refl _, Le.refl _, Le.refl _, Le.refl _, Le.refl _, Le.refl _, Le.refl _, Le.refl _, Le.refl _, Le.refl _, True.intro⟩ ⟨⟨_, rfl, .refl _⟩, True.intro⟩ rfl) ?_
            refine Ok.cond (d := 117) (b := ((x11.toNat : Int) != (x12.toNat : Int))) rfl hB1 (fun hb hB1 => ?_) fun hb hB1 => ?_
            · refine Ok.seq ?_
              refine Ok.region Try.tok ?_
              obtain ⟨hc1, hB1⟩ := chk_some hB1
              refine (Or.inl ⟨hc1, ?_⟩)
              refine Ok.wk (Wk.tab (L := [(1, (vi p_at)), (2, (vi p_bit)), (4, (.b 4 0)), (9, (vb x1)), (11, (.s (List.map cU8 x3.1))), (12, (vi x3.2)), (14, (.s (List.map cU8 x5.1))), (23, (vi ((s1.1 + 1)))), (24, (vi s1.2))]) (H' := [(4, .box [(.s (List.map c_api_Page p_d.Synced)), (.s (List.map c_api_Page p_d.Loose)), (vb p_d.Down)])]) ⟨Le.refl _, Le.refl _, Le.refl _, Le.refl _, Le.refl _, Le.refl _, Le.refl _, Le.refl _, Le.refl _, True.intro⟩ ⟨⟨_, rfl, .refl _⟩, True.intro⟩ rfl) ?_
              refine Ok.seq ?_
              refine Ok.region Try.tok ?_
              refine ⟨(by decide), _, rfl, ?_⟩
              refine Ok.wk (Wk.tab (L := [(1, (vi p_at)), (2, (vi p_bit)), (4, (.b 4 0)), (9, (vb x1)), (11, (.s (List.map cU8 x3.1))), (12, (vi x3.2)), (14, (.s (List.map cU8 x5.1))), (23, (vi ((s1.1 + 1)))), (24, (vi s1.2)), (123, (vb (((quoK .i64 p_bit (8)) != s1.2))))]) (H' := [(4, .box [(.s (List.map c_api_Page p_d.Synced)), (.s (List.map c_api_Page p_d.Loose)), (vb p_d.Down)])]) ⟨Le.refl _, Le.refl _, Le.refl _, Le.refl _, Le.refl _, Le.refl _, Le.refl _, Le.refl _, Le.refl _, Le.refl _, True.intro⟩ ⟨⟨_, rfl, .refl _⟩, True.intro⟩ rfl) ?_
              refine Ok.cond (d := 123) (b := ((quoK .i64 p_bit (8)) != s1.2)) rfl hB1 (fun hb hB1 => ?_) fun hb hB1 => ?_
              · refine Ok.seq ?_
                refine Ok.region Try.tok ?_
                refine Ok.wk (Wk.tab (L := [(8, (vb false))]) (H' := []) ⟨Le.refl _, True.intro⟩ True.intro rfl) ?_
                refine Ok.ret ?_
                have hB1 := out_ret hB1 hy1
                cases hB1
                exact Fz.v
              · refine Ok.skip ?_
                exact ⟨_, hB1, Wk.tab ⟨Le.refl _, Le.refl _, Le.refl _, Le.refl _, Le.refl _, Le.refl _, Le.refl _, Le.refl _, Le.refl _, True.intro⟩ ⟨⟨_, rfl, .refl _⟩, True.intro⟩ rfl⟩
            · refine Ok.skip ?_
              exact ⟨_, hB1, Wk.tab ⟨Le.refl _, Le.refl _, Le.refl _, Le.refl _, Le.refl _, Le.refl _, Le.refl _, Le.refl _, Le.refl _, True.intro⟩ ⟨⟨_, rfl, .refl _⟩, True.intro⟩ rfl⟩
          intro v4 hB1
          unfold law04_DiskRot_J2 at hB1
          refine Ok.region Try.tok ?_
          obtain ⟨hc2, hB1⟩ := chk_some hB1
          refine (Or.inl ⟨hc2, ?_⟩)
          exact ⟨_, (Option.some.inj hB1).symm, Wk.tab ⟨Le.refl _, Le.refl _, Le.refl _, Le.refl _, Le.refl _, Le.refl _, Le.refl _, Le.refl _, Le.refl _, True.intro⟩ ⟨⟨_, rfl, .refl _⟩, True.intro⟩ rfl⟩
        · refine Ok.exit ?_
          have hB1 := out_ret hB1 hy1
          exact ⟨_, hB1, Wk.tab ⟨Le.refl _, Le.refl _, Le.refl _, Le.refl _, Le.refl _, Le.refl _, Le.refl _, True.intro⟩ ⟨⟨_, rfl, .refl _⟩, True.intro⟩ rfl⟩
      intro v3 h
      unfold law04_DiskRot_J1 at h
      refine Ok.seq ?_
      refine Ok.region Try.tok ?_
      refine Ok.wk (Wk.tab (L := [(1, (vi p_at)), (2, (vi p_bit)), (4, (.b 4 0)), (9, (vb x1)), (11, (.s (List.map cU8 x3.1))), (12, (vi x3.2)), (23, (vi v3)), (25, (vb false))]) (H' := [(4, .box [(.s (List.map c_api_Page p_d.Synced)), (.s (List.map c_api_Page p_d.Loose)), (vb p_d.Down)])]) ⟨Le.refl _, Le.refl _, Le.refl _, Le.refl _, Le.refl _, Le.refl _, Le.refl _, Le.refl _, True.intro⟩ ⟨⟨_, rfl, .refl _⟩, True.intro⟩ rfl) ?_
      obtain ⟨v5, hv5, h⟩ := bindS h
      refine Ok.seqw ⟨Cat.tab [(2, (vi p_bit)), (9, (vb x1)), (11, (.s (List.map cU8 x3.1))), (12, (vi x3.2)), (23, (vi v3)), (25, (vb v5))], []⟩ ?_ ?_
      · refine Ok.seq ?_
        refine Ok.region Try.tok ?_
        refine Ok.wk (Wk.tab (L := [(1, (vi p_at)), (2, (vi p_bit)), (4, (.b 4 0)), (9, (vb x1)), (11, (.s (List.map cU8 x3.1))), (12, (vi x3.2)), (23, (vi v3)), (25, (vb false)), (26, (vi (0)))]) (H' := [(4, .box [(.s (List.map c_api_Page p_d.Synced)), (.s (List.map c_api_Page p_d.Loose)), (vb p_d.Down)])]) ⟨Le.refl _, Le.refl _, Le.refl _, Le.refl _, Le.refl _, Le.refl _, Le.refl _, Le.refl _, Le.refl _, True.intro⟩ ⟨⟨_, rfl, .refl _⟩, True.intro⟩ rfl) ?_
        refine Ok.block ?_
        refine Ok.loop (fun (s2 : Bool × Int) => ⟨Cat.tab [(1, (vi p_at)), (2, (vi p_bit)), (4, (.b 4 0)), (9, (vb x1)), (11, (.s (List.map cU8 x3.1))), (12, (vi x3.2)), (23, (vi v3)), (25, (vb s2.1)), (26, (vi s2.2))], [(4, .box [(.s (List.map c_api_Page p_d.Synced)), (.s (List.map c_api_Page p_d.Loose)), (vb p_d.Down)])]⟩) (law04_DiskRot_B2 p_d p_at) (s0 := (false, 0)) hv5 (Wk.tab ⟨Le.refl _, Le.refl _, Le.refl _, Le.refl _, Le.refl _, Le.refl _, Le.refl _, Le.refl _, Le.refl _, True.intro⟩ ⟨⟨_, rfl, .refl _⟩, True.intro⟩ rfl) ?_
        intro s2 y2 hB2 hy2
        unfold law04_DiskRot_B2 at hB2
        refine Ok.seq ?_
        refine Ok.seq ?_
        refine Ok.region Try.tok ?_
        refine ⟨_, rfl, ⟨_, List.length_map _, fun _ => ?_⟩⟩
        refine Ok.wk (Wk.tab (L := [(1, (vi p_at)), (2, (vi p_bit)), (4, (.b 4 0)), (9, (vb x1)), (11, (.s (List.map cU8 x3.1))), (12, (vi x3.2)), (23, (vi v3)), (25, (vb s2.1)), (26, (vi s2.2)), (128, (vb ((decide (s2.2 < (p_d.Loose.length : Int))))))]) (H' := [(4, .box [(.s (List.map c_api_Page p_d.Synced)), (.s (List.map c_api_Page p_d.Loose)), (vb p_d.Down)])]) ⟨Le.refl _, Le.refl _, Le.refl _, Le.refl _, Le.refl _, Le.refl _, Le.refl _, Le.refl _, Le.refl _, Le.refl _, True.intro⟩ ⟨⟨_, rfl, .refl _⟩, True.intro⟩ rfl) ?_
        refine Ok.cond (d := 128) (b := (decide (s2.2 < (p_d.Loose.length : Int)))) rfl hB2 (fun hb hB2 => ?_) fun hb hB2 => ?_
        · refine Ok.skip ?_
          obtain ⟨v6, hv6, hB2⟩ := bindS hB2
          refine Ok.seqw ⟨Cat.tab [(1, (vi p_at)), (2, (vi p_bit)), (4, (.b 4 0)), (9, (vb x1)), (11, (.s (List.map cU8 x3.1))), (12, (vi x3.2)), (23, (vi v3)), (25, (vb v6)), (26, (vi s2.2))], [(4, .box [(.s (List.map c_api_Page p_d.Synced)), (.s (List.map c_api_Page p_d.Loose)), (vb p_d.Down)])]⟩ ?_ ?_
          · refine Ok.block ?_
            refine Ok.region Try.tok ?_
            obtain ⟨c7, hg13, hv6⟩ := bindS hv6
            refine Br.itf hg13 (fun hb hg13 => ?_) fun hb hg13 => ?_
            · cases hg13
              cases hv6
              exact Wk.tab ⟨Le.refl _, Le.refl _, Le.refl _, Le.refl _, Le.refl _, Le.refl _, Le.refl _, Le.refl _, Le.refl _, True.intro⟩ ⟨⟨_, rfl, .refl _⟩, True.intro⟩ rfl
            · obtain ⟨x13, hx13, hg13⟩ := bindS hg13
              refine ⟨_, rfl, ⟨_, idx_nat hx13, _, idx_row hx13, ⟨_, rfl, ?_⟩⟩⟩
              cases hg13
              cases hv6
              exact Wk.tab ⟨Le.refl _, Le.refl _, Le.refl _, Le.refl _, Le.refl _, Le.refl _, Le.refl _, Le.refl _, Le.refl _, True.intro⟩ ⟨⟨_, rfl, .refl _⟩, True.intro⟩ rfl
          refine Ok.region Try.tok ?_
          obtain ⟨hc3, hB2⟩ := chk_some hB2
          refine (Or.inl ⟨hc3, ?_⟩)
          exact ⟨_, (Option.some.inj hB2).symm, Wk.tab ⟨Le.refl _, Le.refl _, Le.refl _, Le.refl _, Le.refl _, Le.refl _, Le.refl _, Le.refl _, Le.refl _, True.intro⟩ ⟨⟨_, rfl, .refl _⟩, True.intro⟩ rfl⟩
        · refine Ok.exit ?_
          have hB2 := out_ret hB2 hy2
          cases hB2
          exact Wk.tab ⟨Le.refl _, Le.refl _, Le.refl _, Le.refl _, Le.refl _, Le.refl _, True.intro⟩ True.intro rfl
      refine Ok.seq ?_
      obtain ⟨v7, hv7, h⟩ := bindS h
      refine Ok.seqw ⟨Cat.tab [(9, (vb x1)), (23, (vi v3)), (157, (vb v7))], []⟩ ?_ ?_
      · refine Ok.region Try.tok ?_
        obtain ⟨c8, hg14, hv7⟩ := bindS hv7
        refine Br.itf hg14 (fun hb hg14 => ?_) fun hb hg14 => ?_
        · cases hg14
          obtain ⟨c9, hg15, hv7⟩ := bindS hv7
          replace hg15 := iteT hg15
          cases hg15
          obtain ⟨c10, hg16, hv7⟩ := bindS hv7
          replace hg16 := iteT hg16
          cases hg16
          cases hv7
          exact Wk.tab ⟨Le.refl _, Le.refl _, Le.refl _, True.intro⟩ True.intro rfl
        · cases hg14
          obtain ⟨c9, hg17, hv7⟩ := bindS hv7
          refine Br.itf hg17 (fun hb hg17 => ?_) fun hb hg17 => ?_
          · cases hg17
            obtain ⟨c10, hg18, hv7⟩ := bindS hv7
            replace hg18 := iteT hg18
            cases hg18
            cases hv7
            exact Wk.tab ⟨Le.refl _, Le.refl _, Le.refl _, True.intro⟩ True.intro rfl
          · cases hg17
            obtain ⟨c10, hg19, hv7⟩ := bindS hv7
            refine Br.itf hg19 (fun hb hg19 => ?_) fun hb hg19 => ?_
            · cases hg19
              cases hv7
              exact Wk.tab ⟨Le.refl _, Le.refl _, Le.refl _, True.intro⟩ True.intro rfl
            · obtain ⟨hc4, hg19⟩ := chk_some hg19
              refine ⟨_, List.length_map _, fun _ => (Or.inl ⟨hc4, ?_⟩)⟩
              cases hg19
              cases hv7
              exact Wk.tab ⟨Le.refl _, Le.refl _, Le.refl _, True.intro⟩ True.intro rfl
      refine Ok.cond (d := 157) (b := v7) rfl h (fun hb h => ?_) fun hb h => ?_
      · obtain ⟨v8, hv8, h⟩ := bindS h
        refine Ok.seqw ⟨Cat.tab [(8, (vb v8))], []⟩ ?_ ?_
        · refine Ok.region Try.tok ?_
          obtain ⟨c11, hg20, hv8⟩ := bindS hv8
          refine Br.ite hg20 (fun hb hg20 => ?_) fun hb hg20 => ?_
          · cases hg20
            cases hv8
            exact Wk.tab ⟨Le.refl _, True.intro⟩ True.intro rfl
          · cases hg20
            cases hv8
            exact Wk.tab ⟨Le.refl _, True.intro⟩ True.intro rfl
        refine Ok.ret ?_
        cases h
        exact Fz.v
      · refine Ok.skip ?_
        obtain ⟨v9, hv9, h⟩ := bindS h
        refine Ok.seqw ⟨Cat.tab [(8, (vb v9))], []⟩ ?_ ?_
        · refine Ok.region Try.tok ?_
          obtain ⟨c12, hg21, hv9⟩ := bindS hv9
          refine Br.ite hg21 (fun hb hg21 => ?_) fun hb hg21 => ?_
          · cases hg21
            cases hv9
            exact Wk.tab ⟨Le.refl _, True.intro⟩ True.intro rfl
          · cases hg21
            cases hv9
            exact Wk.tab ⟨Le.refl _, True.intro⟩ True.intro rfl
        refine Ok.ret ?_
        cases h
        exact Fz.v

end Go.Proofs
