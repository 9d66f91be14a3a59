/- The walks of this seat beside the plain programs, part 1. No condition. -/
import Derived.Test.YtlhgbjgfnihijaaXDiskDownEn
import Derived.Test.YtlhgbjgfnihijaaXDiskDownWk0
namespace Go.Proofs
set_option linter.all false
open Go Go.Cat
variable [M : Mono]
set_option maxRecDepth 100000

theorem w_law04_DiskDown [Off] {p_d : api_Disk} {p_keep : Int} {p_at : Int} {p_data : List UInt8} {r : Bool} (h : law04_DiskDown p_d p_keep p_at p_data = some r) : Pure Try.prog 8 [(.a [(.s (List.map c_api_Page p_d.Synced)), (.s (List.map c_api_Page p_d.Loose)), (vb p_d.Down)]), (vi p_keep), (vi p_at), (.s (List.map cU8 p_data))] (vb r) := by
  refine pure_of_ok (n := 112) (c := (Try.f8.body.getD .skip)) Try.tok Try.func8 (by kernel_rfl) rfl rfl (Nat.le_of_ble_eq_true rfl) ?_
  unfold law04_DiskDown at h
  refine Ok.wk (Wk.tab (L := [(0, (.a [(.s (List.map c_api_Page p_d.Synced)), (.s (List.map c_api_Page p_d.Loose)), (vb p_d.Down)])), (1, (vi p_keep)), (2, (vi p_at)), (3, (.s (List.map cU8 p_data)))]) (H' := []) ⟨Le.refl _, Le.refl _, Le.refl _, Le.refl _, True.intro⟩ True.intro rfl) ?_
  refine Ok.seq ?_
  refine Ok.region Try.tok ?_
  refine Ok.wk (Wk.tab (L := [(1, (vi p_keep)), (2, (vi p_at)), (3, (.s (List.map cU8 p_data))), (4, (.b 4 0))]) (H' := [(4, .box [(.s (List.map c_api_Page p_d.Synced)), (.s (List.map c_api_Page p_d.Loose)), (vb p_d.Down)])]) ⟨Le.refl _, Le.refl _, Le.refl _, Le.refl _, True.intro⟩ ⟨⟨_, rfl, .refl _⟩, True.intro⟩ rfl) ?_
  refine Ok.seq ?_
  refine Ok.region Try.tok ?_
  obtain ⟨x1, hx1, h⟩ := bindS h
  refine CallOk.call (w_law04_head hx1) (LeL.refl _) ?_
  refine Ok.wk (Wk.tab (L := [(1, (vi p_keep)), (2, (vi p_at)), (3, (.s (List.map cU8 p_data))), (4, (.b 4 0)), (9, (vb x1))]) (H' := [(4, .box [(.s (List.map c_api_Page p_d.Synced)), (.s (List.map c_api_Page p_d.Loose)), (vb p_d.Down)])]) ⟨Le.refl _, Le.refl _, Le.refl _, Le.refl _, Le.refl _, True.intro⟩ ⟨⟨_, rfl, .refl _⟩, True.intro⟩ rfl) ?_
  refine Ok.seq ?_
  refine Ok.region Try.tok ?_
  obtain ⟨x2, hx2, h⟩ := bindS h
  refine ⟨_, rfl, ?_⟩
  refine CallOk.call (w_law04_Fits hx2) (LeL.refl _) ?_
  refine Ok.wk (Wk.tab (L := [(1, (vi p_keep)), (2, (vi p_at)), (3, (.s (List.map cU8 p_data))), (4, (.b 4 0)), (9, (vb x1)), (10, (vb x2))]) (H' := [(4, .box [(.s (List.map c_api_Page p_d.Synced)), (.s (List.map c_api_Page p_d.Loose)), (vb p_d.Down)])]) ⟨Le.refl _, Le.refl _, Le.refl _, Le.refl _, Le.refl _, Le.refl _, True.intro⟩ ⟨⟨_, rfl, .refl _⟩, True.intro⟩ rfl) ?_
  refine Ok.seq ?_
  refine Ok.seq ?_
  refine Ok.region Try.tok ?_
  refine Ok.wk (Wk.tab (L := [(1, (vi p_keep)), (2, (vi p_at)), (3, (.s (List.map cU8 p_data))), (4, (.b 4 0)), (9, (vb x1)), (29, (vb ((!x2))))]) (H' := [(4, .box [(.s (List.map c_api_Page p_d.Synced)), (.s (List.map c_api_Page p_d.Loose)), (vb p_d.Down)])]) ⟨Le.refl _, Le.refl _, Le.refl _, Le.refl _, Le.refl _, Le.refl _, True.intro⟩ ⟨⟨_, rfl, .refl _⟩, True.intro⟩ rfl) ?_
  refine Ok.cond (d := 29) (b := (!x2)) rfl h (fun hb h => ?_) fun hb h => ?_
  · refine Ok.seq ?_
    refine Ok.region Try.tok ?_
    refine Ok.wk (Wk.tab (L := [(8, (vb x1))]) (H' := []) ⟨Le.refl _, True.intro⟩ True.intro rfl) ?_
    refine Ok.ret ?_
    cases h
    exact Fz.v
  · refine Ok.skip ?_
    refine Ok.seq ?_
    refine Ok.region Try.tok ?_
    obtain ⟨x3, hx3, h⟩ := bindS h
    refine ⟨_, rfl, ?_⟩
    refine CallOk.call (w_disk_Crash hx3) (LeL.refl _) ?_
    refine ⟨_, rfl, ?_⟩
    refine Ok.wk (Wk.tab (L := [(1, (vi p_keep)), (2, (vi p_at)), (3, (.s (List.map cU8 p_data))), (9, (vb x1)), (11, (.b 11 0))]) (H' := [(11, .box [(.s (List.map c_api_Page x3.Synced)), (.s (List.map c_api_Page x3.Loose)), (vb x3.Down)])]) ⟨Le.refl _, Le.refl _, Le.refl _, Le.refl _, Le.refl _, True.intro⟩ ⟨⟨_, rfl, .refl _⟩, True.intro⟩ rfl) ?_
    refine Ok.seq ?_
    refine Ok.region Try.tok ?_
    obtain ⟨x4, hx4, h⟩ := bindS h
    refine ⟨_, rfl, ?_⟩
    refine CallOk.call (w_disk_Write hx4) (LeL.refl _) ?_
    refine ⟨_, rfl, ?_⟩
    refine Ok.wk (Wk.tab (L := [(1, (vi p_keep)), (2, (vi p_at)), (9, (vb x1)), (11, (.b 11 0)), (12, (.b 12 0)), (13, (vi x4.2))]) (H' := [(11, .box [(.s (List.map c_api_Page x3.Synced)), (.s (List.map c_api_Page x3.Loose)), (vb x3.Down)]), (12, .box [(.s (List.map c_api_Page x4.1.Synced)), (.s (List.map c_api_Page x4.1.Loose)), (vb x4.1.Down)])]) ⟨Le.refl _, Le.refl _, Le.refl _, Le.refl _, Le.refl _, Le.refl _, True.intro⟩ ⟨⟨_, rfl, .refl _⟩, ⟨_, rfl, .refl _⟩, True.intro⟩ rfl) ?_
    refine Ok.seq ?_
    refine Ok.region Try.tok ?_
    obtain ⟨x5, hx5, h⟩ := bindS h
    refine ⟨_, rfl, ?_⟩
    refine CallOk.call (w_disk_Sync hx5) (LeL.refl _) ?_
    refine ⟨_, rfl, ?_⟩
    refine Ok.wk (Wk.tab (L := [(1, (vi p_keep)), (2, (vi p_at)), (9, (vb x1)), (11, (.b 11 0)), (12, (.b 12 0)), (13, (vi x4.2)), (14, (.b 14 0)), (15, (vi x5.2))]) (H' := [(11, .box [(.s (List.map c_api_Page x3.Synced)), (.s (List.map c_api_Page x3.Loose)), (vb x3.Down)]), (12, .box [(.s (List.map c_api_Page x4.1.Synced)), (.s (List.map c_api_Page x4.1.Loose)), (vb x4.1.Down)]), (14, .box [(.s (List.map c_api_Page x5.1.Synced)), (.s (List.map c_api_Page x5.1.Loose)), (vb x5.1.Down)])]) ⟨Le.refl _, Le.refl _, Le.refl _, Le.refl _, Le.refl _, Le.refl _, Le.refl _, Le.refl _, True.intro⟩ ⟨⟨_, rfl, .refl _⟩, ⟨_, rfl, .refl _⟩, ⟨_, rfl, .refl _⟩, True.intro⟩ rfl) ?_
    refine Ok.seq ?_
    refine Ok.region Try.tok ?_
    obtain ⟨x6, hx6, h⟩ := bindS h
    refine ⟨_, rfl, ?_⟩
    refine CallOk.call (w_disk_Read hx6) (LeL.refl _) ?_
    refine Ok.wk (Wk.tab (L := [(1, (vi p_keep)), (9, (vb x1)), (11, (.b 11 0)), (12, (.b 12 0)), (13, (vi x4.2)), (14, (.b 14 0)), (15, (vi x5.2)), (17, (vi x6.2))]) (H' := [(11, .box [(.s (List.map c_api_Page x3.Synced)), (.s (List.map c_api_Page x3.Loose)), (vb x3.Down)]), (12, .box [(.s (List.map c_api_Page x4.1.Synced)), (.s (List.map c_api_Page x4.1.Loose)), (vb x4.1.Down)]), (14, .box [(.s (List.map c_api_Page x5.1.Synced)), (.s (List.map c_api_Page x5.1.Loose)), (vb x5.1.Down)])]) ⟨Le.refl _, Le.refl _, Le.refl _, Le.refl _, Le.refl _, Le.refl _, Le.refl _, Le.refl _, True.intro⟩ ⟨⟨_, rfl, .refl _⟩, ⟨_, rfl, .refl _⟩, ⟨_, rfl, .refl _⟩, True.intro⟩ rfl) ?_
    refine Ok.seq ?_
    refine Ok.region Try.tok ?_
    obtain ⟨x7, hx7, h⟩ := bindS h
    refine ⟨_, rfl, ⟨_, rfl, ?_⟩⟩
    refine CallOk.call (w_ref04_Same hx7) (LeL.refl _) ?_
    refine Ok.wk (Wk.tab (L := [(1, (vi p_keep)), (9, (vb x1)), (11, (.b 11 0)), (13, (vi x4.2)), (14, (.b 14 0)), (15, (vi x5.2)), (17, (vi x6.2)), (18, (vb x7))]) (H' := [(11, .box [(.s (List.map c_api_Page x3.Synced)), (.s (List.map c_api_Page x3.Loose)), (vb x3.Down)]), (14, .box [(.s (List.map c_api_Page x5.1.Synced)), (.s (List.map c_api_Page x5.1.Loose)), (vb x5.1.Down)])]) ⟨Le.refl _, Le.refl _, Le.refl _, Le.refl _, Le.refl _, Le.refl _, Le.refl _, Le.refl _, True.intro⟩ ⟨⟨_, rfl, .refl _⟩, ⟨_, rfl, .refl _⟩, True.intro⟩ rfl) ?_
    refine Ok.seq ?_
    refine Ok.region Try.tok ?_
    obtain ⟨x8, hx8, h⟩ := bindS h
    refine ⟨_, rfl, ⟨_, rfl, ?_⟩⟩
    refine CallOk.call (w_ref04_Same hx8) (LeL.refl _) ?_
    refine Ok.wk (Wk.tab (L := [(1, (vi p_keep)), (9, (vb x1)), (11, (.b 11 0)), (13, (vi x4.2)), (15, (vi x5.2)), (17, (vi x6.2)), (18, (vb x7)), (19, (vb x8))]) (H' := [(11, .box [(.s (List.map c_api_Page x3.Synced)), (.s (List.map c_api_Page x3.Loose)), (vb x3.Down)])]) ⟨Le.refl _, Le.refl _, Le.refl _, Le.refl _, Le.refl _, Le.refl _, Le.refl _, Le.refl _, True.intro⟩ ⟨⟨_, rfl, .refl _⟩, True.intro⟩ rfl) ?_
    refine Ok.seq ?_
    refine Ok.region Try.tok ?_
    obtain ⟨x9, hx9, h⟩ := bindS h
    refine ⟨_, rfl, ?_⟩
    refine CallOk.call (w_disk_Up hx9) (LeL.refl _) ?_
    refine ⟨_, rfl, ?_⟩
    refine Ok.wk (Wk.tab (L := [(1, (vi p_keep)), (9, (vb x1)), (11, (.b 11 0)), (13, (vi x4.2)), (15, (vi x5.2)), (17, (vi x6.2)), (18, (vb x7)), (19, (vb x8)), (20, (.b 20 0))]) (H' := [(11, .box [(.s (List.map c_api_Page x3.Synced)), (.s (List.map c_api_Page x3.Loose)), (vb x3.Down)]), (20, .box [(.s (List.map c_api_Page x9.Synced)), (.s (List.map c_api_Page x9.Loose)), (vb x9.Down)])]) ⟨Le.refl _, Le.refl _, Le.refl _, Le.refl _, Le.refl _, Le.refl _, Le.refl _, Le.refl _, Le.refl _, True.intro⟩ ⟨⟨_, rfl, .refl _⟩, ⟨_, rfl, .refl _⟩, True.intro⟩ rfl) ?_
    refine Ok.seq ?_
    refine Ok.region Try.tok ?_
    obtain ⟨x10, hx10, h⟩ := bindS h
    refine ⟨_, rfl, ?_⟩
    refine CallOk.call (w_disk_Sync hx10) (LeL.refl _) ?_
    refine ⟨_, rfl, ?_⟩
    refine Ok.wk (Wk.tab (L := [(1, (vi p_keep)), (9, (vb x1)), (11, (.b 11 0)), (13, (vi x4.2)), (15, (vi x5.2)), (17, (vi x6.2)), (18, (vb x7)), (19, (vb x8)), (20, (.b 20 0)), (21, (.b 21 0)), (22, (vi x10.2))]) (H' := [(11, .box [(.s (List.map c_api_Page x3.Synced)), (.s (List.map c_api_Page x3.Loose)), (vb x3.Down)]), (20, .box [(.s (List.map c_api_Page x9.Synced)), (.s (List.map c_api_Page x9.Loose)), (vb x9.Down)]), (21, .box [(.s (List.map c_api_Page x10.1.Synced)), (.s (List.map c_api_Page x10.1.Loose)), (vb x10.1.Down)])]) ⟨Le.refl _, Le.refl _, Le.refl _, Le.refl _, Le.refl _, Le.refl _, Le.refl _, Le.refl _, Le.refl _, Le.refl _, Le.refl _, True.intro⟩ ⟨⟨_, rfl, .refl _⟩, ⟨_, rfl, .refl _⟩, ⟨_, rfl, .refl _⟩, True.intro⟩ rfl) ?_
    refine Ok.seq ?_
    refine Ok.region Try.tok ?_
    obtain ⟨x11, hx11, h⟩ := bindS h
    refine ⟨_, rfl, ⟨_, rfl, ?_⟩⟩
    refine CallOk.call (w_ref04_Same hx11) (LeL.refl _) ?_
    refine Ok.wk (Wk.tab (L := [(1, (vi p_keep)), (9, (vb x1)), (11, (.b 11 0)), (13, (vi x4.2)), (15, (vi x5.2)), (17, (vi x6.2)), (18, (vb x7)), (19, (vb x8)), (22, (vi x10.2)), (23, (vb x11))]) (H' := [(11, .box [(.s (List.map c_api_Page x3.Synced)), (.s (List.map c_api_Page x3.Loose)), (vb x3.Down)])]) ⟨Le.refl _, Le.refl _, Le.refl _, Le.refl _, Le.refl _, Le.refl _, Le.refl _, Le.refl _, Le.refl _, Le.refl _, True.intro⟩ ⟨⟨_, rfl, .refl _⟩, True.intro⟩ rfl) ?_
    refine Ok.seq ?_
    refine Ok.draw (m := 6) Try.tok Try.mixed (by kernel_rfl) ?_
    obtain ⟨x12, hx12, h⟩ := bindS h
    obtain ⟨x13, hx13, h⟩ := bindS h
    refine ⟨_, ⟨_, rfl, rfl⟩, ⟨_, rfl, ⟨_, ⟨_, .of_pure (w_disk_Crash hx12) (LeL.refl _), rfl⟩, ⟨_, ⟨_, rfl, rfl⟩, ⟨_, ⟨_, .of_pure (w_ref04_Same hx13) (LeL.refl _), rfl⟩, ⟨_, rfl, ?_⟩⟩⟩⟩⟩⟩
    refine Ok.wk (Wk.tab (L := [(9, (vb x1)), (11, (.b 11 0)), (13, (vi x4.2)), (15, (vi x5.2)), (17, (vi x6.2)), (18, (vb x7)), (19, (vb x8)), (22, (vi x10.2)), (23, (vb x11)), (24, (vb x13))]) (H' := [(11, .box [(.s (List.map c_api_Page x3.Synced)), (.s (List.map c_api_Page x3.Loose)), (vb x3.Down)])]) ⟨Le.refl _, Le.refl _, Le.refl _, Le.refl _, Le.refl _, Le.refl _, Le.refl _, Le.refl _, Le.refl _, Le.refl _, True.intro⟩ ⟨⟨_, rfl, .refl _⟩, True.intro⟩ rfl) ?_
    obtain ⟨v1, hv1, h⟩ := bindS h
    refine Ok.seqw ⟨Cat.tab [(8, (vb v1))], []⟩ ?_ ?_
    · refine Ok.region Try.tok ?_
      obtain ⟨c1, hg1, hv1⟩ := bindS hv1
      refine Br.ite hg1 (fun hb hg1 => ?_) fun hb hg1 => ?_
      · refine ⟨_, rfl, ?_⟩
        cases hg1
        obtain ⟨c2, hg2, hv1⟩ := bindS hv1
        refine Br.ite hg2 (fun hb hg2 => ?_) fun hb hg2 => ?_
        · refine ⟨_, rfl, ⟨_, List.length_map _, fun _ => ?_⟩⟩
          cases hg2
          obtain ⟨c3, hg3, hv1⟩ := bindS hv1
          refine Br.ite hg3 (fun hb hg3 => ?_) fun hb hg3 => ?_
          · cases hg3
            obtain ⟨c4, hg4, hv1⟩ := bindS hv1
            refine Br.ite hg4 (fun hb hg4 => ?_) fun hb hg4 => ?_
            · cases hg4
              obtain ⟨c5, hg5, hv1⟩ := bindS hv1
              refine Br.ite hg5 (fun hb hg5 => ?_) fun hb hg5 => ?_
              · cases hg5
                obtain ⟨c6, hg6, hv1⟩ := bindS hv1
                refine Br.ite hg6 (fun hb hg6 => ?_) fun hb hg6 => ?_
                · cases hg6
                  obtain ⟨c7, hg7, hv1⟩ := bindS hv1
                  refine Br.ite hg7 (fun hb hg7 => ?_) fun hb hg7 => ?_
                  · cases hg7
                    obtain ⟨c8, hg8, hv1⟩ := bindS hv1
                    refine Br.ite hg8 (fun hb hg8 => ?_) fun hb hg8 => ?_
                    · cases hg8
                      obtain ⟨c9, hg9, hv1⟩ := bindS hv1
                      refine Br.ite hg9 (fun hb hg9 => ?_) fun hb hg9 => ?_
                      · cases hg9
                        obtain ⟨c10, hg10, hv1⟩ := bindS hv1
                        refine Br.ite hg10 (fun hb hg10 => ?_) fun hb hg10 => ?_
                        · cases hg10
                          cases hv1
                          exact Wk.tab ⟨Le.refl _, True.intro⟩ True.intro rfl
                        · cases hg10
                          cases hv1
                          exact Wk.tab ⟨Le.refl _, True.intro⟩ True.intro rfl
                      · cases hg9
                        obtain ⟨c10, hg11, hv1⟩ := bindS hv1
                        replace hg11 := iteF hg11
                        cases hg11
                        cases hv1
                        exact Wk.tab ⟨Le.refl _, True.intro⟩ True.intro rfl
                    · cases hg8
                      obtain ⟨c9, hg12, hv1⟩ := bindS hv1
                      replace hg12 := iteF hg12
                      cases hg12
                      obtain ⟨c10, hg13, hv1⟩ := bindS hv1
                      replace hg13 := iteF hg13
                      cases hg13
                      cases hv1
                      exact Wk.tab ⟨Le.refl _, True.intro⟩ True.intro rfl
                  · cases hg7
                    obtain ⟨c8, hg14, hv1⟩ := bindS hv1
                    replace hg14 := iteF hg14
                    cases hg14
                    obtain ⟨c9, hg15, hv1⟩ := bindS hv1
                    replace hg15 := iteF hg15
                    cases hg15
                    obtain ⟨c10, hg16, hv1⟩ := bindS hv1
                    replace hg16 := iteF hg16
                    cases hg16
                    cases hv1
                    exact Wk.tab ⟨Le.refl _, True.intro⟩ True.intro rfl
                · cases hg6
                  obtain ⟨c7, hg17, hv1⟩ := bindS hv1
                  replace hg17 := iteF hg17
                  cases hg17
                  obtain ⟨c8, hg18, hv1⟩ := bindS hv1
                  replace hg18 := iteF hg18
                  cases hg18
                  obtain ⟨c9, hg19, hv1⟩ := bindS hv1
                  replace hg19 := iteF hg19
                  cases hg19
                  obtain ⟨c10, hg20, hv1⟩ := bindS hv1
                  replace hg20 := iteF hg20
                  cases hg20
                  cases hv1
                  exact Wk.tab ⟨Le.refl _, True.intro⟩ True.intro rfl
              · cases hg5
                obtain ⟨c6, hg21, hv1⟩ := bindS hv1
                replace hg21 := iteF hg21
                cases hg21
                obtain ⟨c7, hg22, hv1⟩ := bindS hv1
                replace hg22 := iteF hg22
                cases hg22
                obtain ⟨c8, hg23, hv1⟩ := bindS hv1
                replace hg23 := iteF hg23
                cases hg23
                obtain ⟨c9, hg24, hv1⟩ := bindS hv1
                replace hg24 := iteF hg24
                cases hg24
                obtain ⟨c10, hg25, hv1⟩ := bindS hv1
                replace hg25 := iteF hg25
                cases hg25
                cases hv1
                exact Wk.tab ⟨Le.refl _, True.intro⟩ True.intro rfl
            · cases hg4
              obtain ⟨c5, hg26, hv1⟩ := bindS hv1
              replace hg26 := iteF hg26
              cases hg26
              obtain ⟨c6, hg27, hv1⟩ := bindS hv1
              replace hg27 := iteF hg27
              cases hg27
              obtain ⟨c7, hg28, hv1⟩ := bindS hv1
              replace hg28 := iteF hg28
              cases hg28
              obtain ⟨c8, hg29, hv1⟩ := bindS hv1
              replace hg29 := iteF hg29
              cases hg29
              obtain ⟨c9, hg30, hv1⟩ := bindS hv1
              replace hg30 := iteF hg30
              cases hg30
              obtain ⟨c10, hg31, hv1⟩ := bindS hv1
              replace hg31 := iteF hg31
              cases hg31
              cases hv1
              exact Wk.tab ⟨Le.refl _, True.intro⟩ True.intro rfl
          · cases hg3
            obtain ⟨c4, hg32, hv1⟩ := bindS hv1
            replace hg32 := iteF hg32
            cases hg32
            obtain ⟨c5, hg33, hv1⟩ := bindS hv1
            replace hg33 := iteF hg33
            cases hg33
            obtain ⟨c6, hg34, hv1⟩ := bindS hv1
            replace hg34 := iteF hg34
            cases hg34
            obtain ⟨c7, hg35, hv1⟩ := bindS hv1
            replace hg35 := iteF hg35
            cases hg35
            obtain ⟨c8, hg36, hv1⟩ := bindS hv1
            replace hg36 := iteF hg36
            cases hg36
            obtain ⟨c9, hg37, hv1⟩ := bindS hv1
            replace hg37 := iteF hg37
            cases hg37
            obtain ⟨c10, hg38, hv1⟩ := bindS hv1
            replace hg38 := iteF hg38
            cases hg38
            cases hv1
            exact Wk.tab ⟨Le.refl _, True.intro⟩ True.intro rfl
        · cases hg2
          obtain ⟨c3, hg39, hv1⟩ := bindS hv1
          replace hg39 := iteF hg39
          cases hg39
          obtain ⟨c4, hg40, hv1⟩ := bindS hv1
          replace hg40 := iteF hg40
          cases hg40
          obtain ⟨c5, hg41, hv1⟩ := bindS hv1
          replace hg41 := iteF hg41
          cases hg41
          obtain ⟨c6, hg42, hv1⟩ := bindS hv1
          replace hg42 := iteF hg42
          cases hg42
          obtain ⟨c7, hg43, hv1⟩ := bindS hv1
          replace hg43 := iteF hg43
          cases hg43
          obtain ⟨c8, hg44, hv1⟩ := bindS hv1
          replace hg44 := iteF hg44
          cases hg44
          obtain ⟨c9, hg45, hv1⟩ := bindS hv1
          replace hg45 := iteF hg45
          cases hg45
          obtain ⟨c10, hg46, hv1⟩ := bindS hv1
          replace hg46 := iteF hg46
          cases hg46
          cases hv1
          exact Wk.tab ⟨Le.refl _, True.intro⟩ True.intro rfl
      · cases hg1
        obtain ⟨c2, hg47, hv1⟩ := bindS hv1
        replace hg47 := iteF hg47
        cases hg47
        obtain ⟨c3, hg48, hv1⟩ := bindS hv1
        replace hg48 := iteF hg48
        cases hg48
        obtain ⟨c4, hg49, hv1⟩ := bindS hv1
        replace hg49 := iteF hg49
        cases hg49
        obtain ⟨c5, hg50, hv1⟩ := bindS hv1
        replace hg50 := iteF hg50
        cases hg50
        obtain ⟨c6, hg51, hv1⟩ := bindS hv1
        replace hg51 := iteF hg51
        cases hg51
        obtain ⟨c7, hg52, hv1⟩ := bindS hv1
        replace hg52 := iteF hg52
        cases hg52
        obtain ⟨c8, hg53, hv1⟩ := bindS hv1
        replace hg53 := iteF hg53
        cases hg53
        obtain ⟨c9, hg54, hv1⟩ := bindS hv1
        replace hg54 := iteF hg54
        cases hg54
        obtain ⟨c10, hg55, hv1⟩ := bindS hv1
        replace hg55 := iteF hg55
        cases hg55
        cases hv1
        exact Wk.tab ⟨Le.refl _, True.intro⟩ True.intro rfl
    refine Ok.ret ?_
    cases h
    exact Fz.v

end Go.Proofs
