/- The walks of this seat beside the plain programs, part 1. No condition. -/
import Derived.Test.YtlhgbjgfnihijaaXDiskWrittenEn
import Derived.Test.YtlhgbjgfnihijaaXDiskWrittenWk0
namespace Go.Proofs
set_option linter.all false
open Go Go.Cat
variable [M : Mono]
set_option maxRecDepth 100000

theorem w_law04_DiskWritten [Off] {p_d : api_Disk} {p_at : Int} {p_data : List UInt8} {p_other : Int} {r : Bool} (h : law04_DiskWritten p_d p_at p_data p_other = some r) : Pure Try.prog 4 [(.a [(.s (List.map c_api_Page p_d.Synced)), (.s (List.map c_api_Page p_d.Loose)), (vb p_d.Down)]), (vi p_at), (.s (List.map cU8 p_data)), (vi p_other)] (vb r) := by
  refine pure_of_ok (n := 149) (c := (Try.f4.body.getD .skip)) Try.tok Try.func4 (by kernel_rfl) rfl rfl (Nat.le_of_ble_eq_true rfl) ?_
  unfold law04_DiskWritten at h
  refine Ok.wk (Wk.tab (L := [(0, (.a [(.s (List.map c_api_Page p_d.Synced)), (.s (List.map c_api_Page p_d.Loose)), (vb p_d.Down)])), (1, (vi p_at)), (2, (.s (List.map cU8 p_data))), (3, (vi p_other))]) (H' := []) ⟨Le.refl _, Le.refl _, Le.refl _, Le.refl _, True.intro⟩ True.intro rfl) ?_
  refine Ok.seq ?_
  refine Ok.region Try.tok ?_
  refine Ok.wk (Wk.tab (L := [(1, (vi p_at)), (2, (.s (List.map cU8 p_data))), (3, (vi p_other)), (4, (.b 4 0))]) (H' := [(4, .box [(.s (List.map c_api_Page p_d.Synced)), (.s (List.map c_api_Page p_d.Loose)), (vb p_d.Down)])]) ⟨Le.refl _, Le.refl _, Le.refl _, Le.refl _, True.intro⟩ ⟨⟨_, rfl, .refl _⟩, True.intro⟩ rfl) ?_
  refine Ok.seq ?_
  refine Ok.region Try.tok ?_
  obtain ⟨x1, hx1, h⟩ := bindS h
  refine CallOk.call (w_law04_head hx1) (LeL.refl _) ?_
  refine Ok.wk (Wk.tab (L := [(1, (vi p_at)), (2, (.s (List.map cU8 p_data))), (3, (vi p_other)), (4, (.b 4 0)), (9, (vb x1))]) (H' := [(4, .box [(.s (List.map c_api_Page p_d.Synced)), (.s (List.map c_api_Page p_d.Loose)), (vb p_d.Down)])]) ⟨Le.refl _, Le.refl _, Le.refl _, Le.refl _, Le.refl _, True.intro⟩ ⟨⟨_, rfl, .refl _⟩, True.intro⟩ rfl) ?_
  refine Ok.seq ?_
  refine Ok.region Try.tok ?_
  obtain ⟨x2, hx2, h⟩ := bindS h
  refine ⟨_, rfl, ?_⟩
  refine CallOk.call (w_law04_Fits hx2) (LeL.refl _) ?_
  refine Ok.wk (Wk.tab (L := [(1, (vi p_at)), (2, (.s (List.map cU8 p_data))), (3, (vi p_other)), (4, (.b 4 0)), (9, (vb x1)), (10, (vb x2))]) (H' := [(4, .box [(.s (List.map c_api_Page p_d.Synced)), (.s (List.map c_api_Page p_d.Loose)), (vb p_d.Down)])]) ⟨Le.refl _, Le.refl _, Le.refl _, Le.refl _, Le.refl _, Le.refl _, True.intro⟩ ⟨⟨_, rfl, .refl _⟩, True.intro⟩ rfl) ?_
  refine Ok.seq ?_
  obtain ⟨v1, hv1, h⟩ := bindS h
  refine Ok.seqw ⟨Cat.tab [(1, (vi p_at)), (2, (.s (List.map cU8 p_data))), (3, (vi p_other)), (4, (.b 4 0)), (9, (vb x1)), (50, (vb v1))], [(4, .box [(.s (List.map c_api_Page p_d.Synced)), (.s (List.map c_api_Page p_d.Loose)), (vb p_d.Down)])]⟩ ?_ ?_
  · refine Ok.region Try.tok ?_
    obtain ⟨c1, hg1, hv1⟩ := bindS hv1
    refine Br.itf hg1 (fun hb hg1 => ?_) fun hb hg1 => ?_
    · cases hg1
      obtain ⟨c2, hg2, hv1⟩ := bindS hv1
      replace hg2 := iteT hg2
      cases hg2
      obtain ⟨c3, hg3, hv1⟩ := bindS hv1
      replace hg3 := iteT hg3
      cases hg3
      obtain ⟨c4, hg4, hv1⟩ := bindS hv1
      replace hg4 := iteT hg4
      cases hg4
      cases hv1
      exact Wk.tab ⟨Le.refl _, Le.refl _, Le.refl _, Le.refl _, Le.refl _, Le.refl _, True.intro⟩ ⟨⟨_, rfl, .refl _⟩, True.intro⟩ rfl
    · refine ⟨_, rfl, ?_⟩
      cases hg1
      obtain ⟨c2, hg5, hv1⟩ := bindS hv1
      refine Br.itf hg5 (fun hb hg5 => ?_) fun hb hg5 => ?_
      · cases hg5
        obtain ⟨c3, hg6, hv1⟩ := bindS hv1
        replace hg6 := iteT hg6
        cases hg6
        obtain ⟨c4, hg7, hv1⟩ := bindS hv1
        replace hg7 := iteT hg7
        cases hg7
        cases hv1
        exact Wk.tab ⟨Le.refl _, Le.refl _, Le.refl _, Le.refl _, Le.refl _, Le.refl _, True.intro⟩ ⟨⟨_, rfl, .refl _⟩, True.intro⟩ rfl
      · cases hg5
        obtain ⟨c3, hg8, hv1⟩ := bindS hv1
        refine Br.itf hg8 (fun hb hg8 => ?_) fun hb hg8 => ?_
        · cases hg8
          obtain ⟨c4, hg9, hv1⟩ := bindS hv1
          replace hg9 := iteT hg9
          cases hg9
          cases hv1
          exact Wk.tab ⟨Le.refl _, Le.refl _, Le.refl _, Le.refl _, Le.refl _, Le.refl _, True.intro⟩ ⟨⟨_, rfl, .refl _⟩, True.intro⟩ rfl
        · cases hg8
          obtain ⟨c4, hg10, hv1⟩ := bindS hv1
          refine Br.itf hg10 (fun hb hg10 => ?_) fun hb hg10 => ?_
          · cases hg10
            cases hv1
            exact Wk.tab ⟨Le.refl _, Le.refl _, Le.refl _, Le.refl _, Le.refl _, Le.refl _, True.intro⟩ ⟨⟨_, rfl, .refl _⟩, True.intro⟩ rfl
          · refine ⟨_, List.length_map _, fun _ => ?_⟩
            cases hg10
            cases hv1
            exact Wk.tab ⟨Le.refl _, Le.refl _, Le.refl _, Le.refl _, Le.refl _, Le.refl _, True.intro⟩ ⟨⟨_, rfl, .refl _⟩, True.intro⟩ rfl
  refine Ok.cond (d := 50) (b := v1) rfl h (fun hb h => ?_) fun hb h => ?_
  · refine Ok.seq ?_
    refine Ok.region Try.tok ?_
    refine Ok.wk (Wk.tab (L := [(8, (vb x1))]) (H' := []) ⟨Le.refl _, True.intro⟩ True.intro rfl) ?_
    refine Ok.ret ?_
    cases h
    exact Fz.v
  · refine Ok.skip ?_
    refine Ok.seq ?_
    refine Ok.region Try.tok ?_
    obtain ⟨x3, hx3, h⟩ := bindS h
    refine ⟨_, rfl, ?_⟩
    refine CallOk.call (w_disk_Read hx3) (LeL.refl _) ?_
    refine Ok.wk (Wk.tab (L := [(1, (vi p_at)), (2, (.s (List.map cU8 p_data))), (3, (vi p_other)), (4, (.b 4 0)), (9, (vb x1)), (11, (.s (List.map cU8 x3.1))), (12, (vi x3.2))]) (H' := [(4, .box [(.s (List.map c_api_Page p_d.Synced)), (.s (List.map c_api_Page p_d.Loose)), (vb p_d.Down)])]) ⟨Le.refl _, Le.refl _, Le.refl _, Le.refl _, Le.refl _, Le.refl _, Le.refl _, True.intro⟩ ⟨⟨_, rfl, .refl _⟩, True.intro⟩ rfl) ?_
    refine Ok.seq ?_
    refine Ok.region Try.tok ?_
    obtain ⟨x4, hx4, h⟩ := bindS h
    refine ⟨_, rfl, ?_⟩
    refine CallOk.call (w_disk_Write hx4) (LeL.refl _) ?_
    refine ⟨_, rfl, ?_⟩
    refine Ok.wk (Wk.tab (L := [(1, (vi p_at)), (2, (.s (List.map cU8 p_data))), (3, (vi p_other)), (9, (vb x1)), (11, (.s (List.map cU8 x3.1))), (12, (vi x3.2)), (13, (.b 13 0)), (14, (vi x4.2))]) (H' := [(13, .box [(.s (List.map c_api_Page x4.1.Synced)), (.s (List.map c_api_Page x4.1.Loose)), (vb x4.1.Down)])]) ⟨Le.refl _, Le.refl _, Le.refl _, Le.refl _, Le.refl _, Le.refl _, Le.refl _, Le.refl _, True.intro⟩ ⟨⟨_, rfl, .refl _⟩, True.intro⟩ rfl) ?_
    refine Ok.seq ?_
    refine Ok.region Try.tok ?_
    obtain ⟨x5, hx5, h⟩ := bindS h
    refine ⟨_, rfl, ?_⟩
    refine CallOk.call (w_disk_Read hx5) (LeL.refl _) ?_
    refine Ok.wk (Wk.tab (L := [(1, (vi p_at)), (2, (.s (List.map cU8 p_data))), (3, (vi p_other)), (9, (vb x1)), (11, (.s (List.map cU8 x3.1))), (12, (vi x3.2)), (13, (.b 13 0)), (14, (vi x4.2)), (15, (.s (List.map cU8 x5.1))), (16, (vi x5.2))]) (H' := [(13, .box [(.s (List.map c_api_Page x4.1.Synced)), (.s (List.map c_api_Page x4.1.Loose)), (vb x4.1.Down)])]) ⟨Le.refl _, Le.refl _, Le.refl _, Le.refl _, Le.refl _, Le.refl _, Le.refl _, Le.refl _, Le.refl _, Le.refl _, True.intro⟩ ⟨⟨_, rfl, .refl _⟩, True.intro⟩ rfl) ?_
    refine Ok.seq ?_
    refine Ok.region Try.tok ?_
    obtain ⟨x6, hx6, h⟩ := bindS h
    refine ⟨_, rfl, ?_⟩
    refine CallOk.call (w_disk_Sync hx6) (LeL.refl _) ?_
    refine ⟨_, rfl, ?_⟩
    refine Ok.wk (Wk.tab (L := [(1, (vi p_at)), (2, (.s (List.map cU8 p_data))), (3, (vi p_other)), (9, (vb x1)), (11, (.s (List.map cU8 x3.1))), (12, (vi x3.2)), (13, (.b 13 0)), (14, (vi x4.2)), (15, (.s (List.map cU8 x5.1))), (16, (vi x5.2)), (17, (.b 17 0)), (18, (vi x6.2))]) (H' := [(13, .box [(.s (List.map c_api_Page x4.1.Synced)), (.s (List.map c_api_Page x4.1.Loose)), (vb x4.1.Down)]), (17, .box [(.s (List.map c_api_Page x6.1.Synced)), (.s (List.map c_api_Page x6.1.Loose)), (vb x6.1.Down)])]) ⟨Le.refl _, Le.refl _, Le.refl _, Le.refl _, Le.refl _, Le.refl _, Le.refl _, Le.refl _, Le.refl _, Le.refl _, Le.refl _, Le.refl _, True.intro⟩ ⟨⟨_, rfl, .refl _⟩, ⟨_, rfl, .refl _⟩, True.intro⟩ rfl) ?_
    refine Ok.seq ?_
    refine Ok.region Try.tok ?_
    obtain ⟨x7, hx7, h⟩ := bindS h
    refine ⟨_, rfl, ?_⟩
    refine CallOk.call (w_disk_Read hx7) (LeL.refl _) ?_
    refine Ok.wk (Wk.tab (L := [(1, (vi p_at)), (2, (.s (List.map cU8 p_data))), (3, (vi p_other)), (9, (vb x1)), (11, (.s (List.map cU8 x3.1))), (12, (vi x3.2)), (13, (.b 13 0)), (14, (vi x4.2)), (15, (.s (List.map cU8 x5.1))), (16, (vi x5.2)), (17, (.b 17 0)), (18, (vi x6.2)), (19, (.s (List.map cU8 x7.1))), (20, (vi x7.2))]) (H' := [(13, .box [(.s (List.map c_api_Page x4.1.Synced)), (.s (List.map c_api_Page x4.1.Loose)), (vb x4.1.Down)]), (17, .box [(.s (List.map c_api_Page x6.1.Synced)), (.s (List.map c_api_Page x6.1.Loose)), (vb x6.1.Down)])]) ⟨Le.refl _, Le.refl _, Le.refl _, Le.refl _, Le.refl _, Le.refl _, Le.refl _, Le.refl _, Le.refl _, Le.refl _, Le.refl _, Le.refl _, Le.refl _, Le.refl _, True.intro⟩ ⟨⟨_, rfl, .refl _⟩, ⟨_, rfl, .refl _⟩, True.intro⟩ rfl) ?_
    refine Ok.seq ?_
    refine Ok.region Try.tok ?_
    obtain ⟨x8, hx8, h⟩ := bindS h
    refine CallOk.call (w_ref04_Bytes hx8) (LeL.refl _) ?_
    refine Ok.wk (Wk.tab (L := [(1, (vi p_at)), (2, (.s (List.map cU8 p_data))), (3, (vi p_other)), (9, (vb x1)), (11, (.s (List.map cU8 x3.1))), (12, (vi x3.2)), (13, (.b 13 0)), (14, (vi x4.2)), (16, (vi x5.2)), (17, (.b 17 0)), (18, (vi x6.2)), (19, (.s (List.map cU8 x7.1))), (20, (vi x7.2)), (21, (vb x8))]) (H' := [(13, .box [(.s (List.map c_api_Page x4.1.Synced)), (.s (List.map c_api_Page x4.1.Loose)), (vb x4.1.Down)]), (17, .box [(.s (List.map c_api_Page x6.1.Synced)), (.s (List.map c_api_Page x6.1.Loose)), (vb x6.1.Down)])]) ⟨Le.refl _, Le.refl _, Le.refl _, Le.refl _, Le.refl _, Le.refl _, Le.refl _, Le.refl _, Le.refl _, Le.refl _, Le.refl _, Le.refl _, Le.refl _, Le.refl _, True.intro⟩ ⟨⟨_, rfl, .refl _⟩, ⟨_, rfl, .refl _⟩, True.intro⟩ rfl) ?_
    refine Ok.seq ?_
    refine Ok.region Try.tok ?_
    obtain ⟨x9, hx9, h⟩ := bindS h
    refine CallOk.call (w_ref04_Bytes hx9) (LeL.refl _) ?_
    refine Ok.wk (Wk.tab (L := [(1, (vi p_at)), (3, (vi p_other)), (9, (vb x1)), (11, (.s (List.map cU8 x3.1))), (12, (vi x3.2)), (13, (.b 13 0)), (14, (vi x4.2)), (16, (vi x5.2)), (17, (.b 17 0)), (18, (vi x6.2)), (20, (vi x7.2)), (21, (vb x8)), (22, (vb x9))]) (H' := [(13, .box [(.s (List.map c_api_Page x4.1.Synced)), (.s (List.map c_api_Page x4.1.Loose)), (vb x4.1.Down)]), (17, .box [(.s (List.map c_api_Page x6.1.Synced)), (.s (List.map c_api_Page x6.1.Loose)), (vb x6.1.Down)])]) ⟨Le.refl _, Le.refl _, Le.refl _, Le.refl _, Le.refl _, Le.refl _, Le.refl _, Le.refl _, Le.refl _, Le.refl _, Le.refl _, Le.refl _, Le.refl _, True.intro⟩ ⟨⟨_, rfl, .refl _⟩, ⟨_, rfl, .refl _⟩, True.intro⟩ rfl) ?_
    refine Ok.seq ?_
    obtain ⟨v2, hv2, h⟩ := bindS h
    refine Ok.seqw ⟨Cat.tab [(1, (vi p_at)), (3, (vi p_other)), (9, (vb x1)), (11, (.s (List.map cU8 x3.1))), (12, (vi x3.2)), (13, (.b 13 0)), (17, (.b 17 0)), (109, (vb v2))], [(13, .box [(.s (List.map c_api_Page x4.1.Synced)), (.s (List.map c_api_Page x4.1.Loose)), (vb x4.1.Down)]), (17, .box [(.s (List.map c_api_Page x6.1.Synced)), (.s (List.map c_api_Page x6.1.Loose)), (vb x6.1.Down)])]⟩ ?_ ?_
    · refine Ok.region Try.tok ?_
      obtain ⟨c5, hg11, hv2⟩ := bindS hv2
      refine Br.itf hg11 (fun hb hg11 => ?_) fun hb hg11 => ?_
      · cases hg11
        obtain ⟨c6, hg12, hv2⟩ := bindS hv2
        replace hg12 := iteT hg12
        cases hg12
        obtain ⟨c7, hg13, hv2⟩ := bindS hv2
        replace hg13 := iteT hg13
        cases hg13
        obtain ⟨c8, hg14, hv2⟩ := bindS hv2
        replace hg14 := iteT hg14
        cases hg14
        obtain ⟨c9, hg15, hv2⟩ := bindS hv2
        replace hg15 := iteT hg15
        cases hg15
        cases hv2
        exact Wk.tab ⟨Le.refl _, Le.refl _, Le.refl _, Le.refl _, Le.refl _, Le.refl _, Le.refl _, Le.refl _, True.intro⟩ ⟨⟨_, rfl, .refl _⟩, ⟨_, rfl, .refl _⟩, True.intro⟩ rfl
      · cases hg11
        obtain ⟨c6, hg16, hv2⟩ := bindS hv2
        refine Br.itf hg16 (fun hb hg16 => ?_) fun hb hg16 => ?_
        · cases hg16
          obtain ⟨c7, hg17, hv2⟩ := bindS hv2
          replace hg17 := iteT hg17
          cases hg17
          obtain ⟨c8, hg18, hv2⟩ := bindS hv2
          replace hg18 := iteT hg18
          cases hg18
          obtain ⟨c9, hg19, hv2⟩ := bindS hv2
          replace hg19 := iteT hg19
          cases hg19
          cases hv2
          exact Wk.tab ⟨Le.refl _, Le.refl _, Le.refl _, Le.refl _, Le.refl _, Le.refl _, Le.refl _, Le.refl _, True.intro⟩ ⟨⟨_, rfl, .refl _⟩, ⟨_, rfl, .refl _⟩, True.intro⟩ rfl
        · cases hg16
          obtain ⟨c7, hg20, hv2⟩ := bindS hv2
          refine Br.itf hg20 (fun hb hg20 => ?_) fun hb hg20 => ?_
          · cases hg20
            obtain ⟨c8, hg21, hv2⟩ := bindS hv2
            replace hg21 := iteT hg21
            cases hg21
            obtain ⟨c9, hg22, hv2⟩ := bindS hv2
            replace hg22 := iteT hg22
            cases hg22
            cases hv2
            exact Wk.tab ⟨Le.refl _, Le.refl _, Le.refl _, Le.refl _, Le.refl _, Le.refl _, Le.refl _, Le.refl _, True.intro⟩ ⟨⟨_, rfl, .refl _⟩, ⟨_, rfl, .refl _⟩, True.intro⟩ rfl
          · cases hg20
            obtain ⟨c8, hg23, hv2⟩ := bindS hv2
            refine Br.itf hg23 (fun hb hg23 => ?_) fun hb hg23 => ?_
            · cases hg23
              obtain ⟨c9, hg24, hv2⟩ := bindS hv2
              replace hg24 := iteT hg24
              cases hg24
              cases hv2
              exact Wk.tab ⟨Le.refl _, Le.refl _, Le.refl _, Le.refl _, Le.refl _, Le.refl _, Le.refl _, Le.refl _, True.intro⟩ ⟨⟨_, rfl, .refl _⟩, ⟨_, rfl, .refl _⟩, True.intro⟩ rfl
            · cases hg23
              obtain ⟨c9, hg25, hv2⟩ := bindS hv2
              refine Br.itf hg25 (fun hb hg25 => ?_) fun hb hg25 => ?_
              · cases hg25
                cases hv2
                exact Wk.tab ⟨Le.refl _, Le.refl _, Le.refl _, Le.refl _, Le.refl _, Le.refl _, Le.refl _, Le.refl _, True.intro⟩ ⟨⟨_, rfl, .refl _⟩, ⟨_, rfl, .refl _⟩, True.intro⟩ rfl
              · cases hg25
                cases hv2
                exact Wk.tab ⟨Le.refl _, Le.refl _, Le.refl _, Le.refl _, Le.refl _, Le.refl _, Le.refl _, Le.refl _, True.intro⟩ ⟨⟨_, rfl, .refl _⟩, ⟨_, rfl, .refl _⟩, True.intro⟩ rfl
    refine Ok.cond (d := 109) (b := v2) rfl h (fun hb h => ?_) fun hb h => ?_
    · refine Ok.seq ?_
      refine Ok.region Try.tok ?_
      refine Ok.wk (Wk.tab (L := [(8, (vb false))]) (H' := []) ⟨Le.refl _, True.intro⟩ True.intro rfl) ?_
      refine Ok.ret ?_
      cases h
      exact Fz.v
    · refine Ok.skip ?_
      refine Ok.seq ?_
      refine Ok.seq ?_
      refine Ok.region Try.tok ?_
      refine Ok.wk (Wk.tab (L := [(3, (vi p_other)), (9, (vb x1)), (11, (.s (List.map cU8 x3.1))), (12, (vi x3.2)), (13, (.b 13 0)), (17, (.b 17 0)), (112, (vb ((p_other == p_at))))]) (H' := [(13, .box [(.s (List.map c_api_Page x4.1.Synced)), (.s (List.map c_api_Page x4.1.Loose)), (vb x4.1.Down)]), (17, .box [(.s (List.map c_api_Page x6.1.Synced)), (.s (List.map c_api_Page x6.1.Loose)), (vb x6.1.Down)])]) ⟨Le.refl _, Le.refl _, Le.refl _, Le.refl _, Le.refl _, Le.refl _, Le.refl _, True.intro⟩ ⟨⟨_, rfl, .refl _⟩, ⟨_, rfl, .refl _⟩, True.intro⟩ rfl) ?_
      refine Ok.cond (d := 112) (b := (p_other == p_at)) rfl h (fun hb h => ?_) fun hb h => ?_
      · refine Ok.seq ?_
        refine Ok.region Try.tok ?_
        refine Ok.wk (Wk.tab (L := [(8, (vb x1))]) (H' := []) ⟨Le.refl _, True.intro⟩ True.intro rfl) ?_
        refine Ok.ret ?_
        cases h
        exact Fz.v
      · refine Ok.skip ?_
        refine Ok.seq ?_
        refine Ok.region Try.tok ?_
        obtain ⟨x10, hx10, h⟩ := bindS h
        refine ⟨_, rfl, ?_⟩
        refine CallOk.call (w_disk_Read hx10) (LeL.refl _) ?_
        refine Ok.wk (Wk.tab (L := [(3, (vi p_other)), (9, (vb x1)), (11, (.s (List.map cU8 x3.1))), (12, (vi x3.2)), (17, (.b 17 0)), (23, (.s (List.map cU8 x10.1))), (24, (vi x10.2))]) (H' := [(17, .box [(.s (List.map c_api_Page x6.1.Synced)), (.s (List.map c_api_Page x6.1.Loose)), (vb x6.1.Down)])]) ⟨Le.refl _, Le.refl _, Le.refl _, Le.refl _, Le.refl _, Le.refl _, Le.refl _, True.intro⟩ ⟨⟨_, rfl, .refl _⟩, True.intro⟩ rfl) ?_
        refine Ok.seq ?_
        refine Ok.region Try.tok ?_
        obtain ⟨x11, hx11, h⟩ := bindS h
        refine ⟨_, rfl, ?_⟩
        refine CallOk.call (w_disk_Read hx11) (LeL.refl _) ?_
        refine Ok.wk (Wk.tab (L := [(9, (vb x1)), (11, (.s (List.map cU8 x3.1))), (12, (vi x3.2)), (23, (.s (List.map cU8 x10.1))), (24, (vi x10.2)), (25, (.s (List.map cU8 x11.1))), (26, (vi x11.2))]) (H' := []) ⟨Le.refl _, Le.refl _, Le.refl _, Le.refl _, Le.refl _, Le.refl _, Le.refl _, True.intro⟩ True.intro rfl) ?_
        refine Ok.seq ?_
        refine Ok.region Try.tok ?_
        obtain ⟨x12, hx12, h⟩ := bindS h
        refine CallOk.call (w_ref04_Bytes hx12) (LeL.refl _) ?_
        refine Ok.wk (Wk.tab (L := [(9, (vb x1)), (11, (.s (List.map cU8 x3.1))), (12, (vi x3.2)), (24, (vi x10.2)), (25, (.s (List.map cU8 x11.1))), (26, (vi x11.2)), (27, (vb x12))]) (H' := []) ⟨Le.refl _, Le.refl _, Le.refl _, Le.refl _, Le.refl _, Le.refl _, Le.refl _, True.intro⟩ True.intro rfl) ?_
        refine Ok.seq ?_
        refine Ok.region Try.tok ?_
        obtain ⟨x13, hx13, h⟩ := bindS h
        refine CallOk.call (w_ref04_Bytes hx13) (LeL.refl _) ?_
        refine Ok.wk (Wk.tab (L := [(9, (vb x1)), (12, (vi x3.2)), (24, (vi x10.2)), (26, (vi x11.2)), (27, (vb x12)), (28, (vb x13))]) (H' := []) ⟨Le.refl _, Le.refl _, Le.refl _, Le.refl _, Le.refl _, Le.refl _, True.intro⟩ True.intro rfl) ?_
        obtain ⟨v3, hv3, h⟩ := bindS h
        refine Ok.seqw ⟨Cat.tab [(8, (vb v3))], []⟩ ?_ ?_
        · refine Ok.region Try.tok ?_
          obtain ⟨c10, hg26, hv3⟩ := bindS hv3
          refine Br.ite hg26 (fun hb hg26 => ?_) fun hb hg26 => ?_
          · cases hg26
            obtain ⟨c11, hg27, hv3⟩ := bindS hv3
            refine Br.ite hg27 (fun hb hg27 => ?_) fun hb hg27 => ?_
            · cases hg27
              obtain ⟨c12, hg28, hv3⟩ := bindS hv3
              refine Br.ite hg28 (fun hb hg28 => ?_) fun hb hg28 => ?_
              · cases hg28
                obtain ⟨c13, hg29, hv3⟩ := bindS hv3
                refine Br.ite hg29 (fun hb hg29 => ?_) fun hb hg29 => ?_
                · cases hg29
                  cases hv3
                  exact Wk.tab ⟨Le.refl _, True.intro⟩ True.intro rfl
                · cases hg29
                  cases hv3
                  exact Wk.tab ⟨Le.refl _, True.intro⟩ True.intro rfl
              · cases hg28
                obtain ⟨c13, hg30, hv3⟩ := bindS hv3
                replace hg30 := iteF hg30
                cases hg30
                cases hv3
                exact Wk.tab ⟨Le.refl _, True.intro⟩ True.intro rfl
            · cases hg27
              obtain ⟨c12, hg31, hv3⟩ := bindS hv3
              replace hg31 := iteF hg31
              cases hg31
              obtain ⟨c13, hg32, hv3⟩ := bindS hv3
              replace hg32 := iteF hg32
              cases hg32
              cases hv3
              exact Wk.tab ⟨Le.refl _, True.intro⟩ True.intro rfl
          · cases hg26
            obtain ⟨c11, hg33, hv3⟩ := bindS hv3
            replace hg33 := iteF hg33
            cases hg33
            obtain ⟨c12, hg34, hv3⟩ := bindS hv3
            replace hg34 := iteF hg34
            cases hg34
            obtain ⟨c13, hg35, hv3⟩ := bindS hv3
            replace hg35 := iteF hg35
            cases hg35
            cases hv3
            exact Wk.tab ⟨Le.refl _, True.intro⟩ True.intro rfl
        refine Ok.ret ?_
        cases h
        exact Fz.v

end Go.Proofs
