/- The walks of this seat beside the plain programs, part 2. No condition. -/
import Derived.Test.YthhoomhekolbnaaXLeaseClocksEn
import Derived.Test.YthhoomhekolbnaaXLeaseClocksWk0
import Derived.Test.YthhoomhekolbnaaXLeaseClocksWk1
namespace Go.Proofs
set_option linter.all false
open Go Go.Cat
variable [M : Mono]
set_option maxRecDepth 100000

theorem w_law22_LeaseClocks [Off] {p_gaps : List Int} {p_server : List Int} {p_client : List Int} {p_long : UInt8} {p_kind : Bool} {r : Bool} (h : law22_LeaseClocks p_gaps p_server p_client p_long p_kind = some r) : Pure Try.prog 8 [(.s (List.map c_u16 p_gaps)), (.s (List.map c_u16 p_server)), (.s (List.map c_u16 p_client)), (vu p_long), (vb p_kind)] (vb r) := by
  refine pure_of_ok (n := 157) (c := (Try.f8.body.getD .skip)) Try.tok Try.func8 (by kernel_rfl) rfl rfl (Nat.le_of_ble_eq_true rfl) ?_
  unfold law22_LeaseClocks at h
  refine Ok.wk (Wk.tab (L := [(0, (.s (List.map c_u16 p_gaps))), (1, (.s (List.map c_u16 p_server))), (2, (.s (List.map c_u16 p_client))), (3, (vu p_long)), (4, (vb p_kind))]) (H' := []) ⟨Le.refl _, Le.refl _, Le.refl _, Le.refl _, Le.refl _, True.intro⟩ True.intro rfl) ?_
  refine Ok.seq ?_
  refine Ok.region Try.tok ?_
  refine Ok.wk (Wk.tab (L := [(0, (.s (List.map c_u16 p_gaps))), (1, (.s (List.map c_u16 p_server))), (2, (.s (List.map c_u16 p_client))), (3, (vu p_long)), (4, (vb p_kind))]) (H' := []) ⟨Le.refl _, Le.refl _, Le.refl _, Le.refl _, Le.refl _, True.intro⟩ True.intro rfl) ?_
  refine Ok.seq ?_
  refine Ok.region Try.tok ?_
  obtain ⟨x1, hx1, h⟩ := bindS h
  refine CallOk.call (w_law22_head hx1) (LeL.refl _) ?_
  refine Ok.wk (Wk.tab (L := [(0, (.s (List.map c_u16 p_gaps))), (1, (.s (List.map c_u16 p_server))), (2, (.s (List.map c_u16 p_client))), (3, (vu p_long)), (4, (vb p_kind)), (11, (vb x1))]) (H' := []) ⟨Le.refl _, Le.refl _, Le.refl _, Le.refl _, Le.refl _, Le.refl _, True.intro⟩ True.intro rfl) ?_
  refine Ok.seq ?_
  obtain ⟨v1, hv1, h⟩ := bindS h
  refine Ok.seqw ⟨Cat.tab [(0, (.s (List.map c_u16 p_gaps))), (1, (.s (List.map c_u16 p_server))), (2, (.s (List.map c_u16 p_client))), (3, (vu p_long)), (4, (vb p_kind)), (11, (vb x1)), (36, (vb v1))], []⟩ ?_ ?_
  · refine Ok.region Try.tok ?_
    refine ⟨_, List.length_map _, fun _ => ?_⟩
    obtain ⟨c1, hg1, hv1⟩ := bindS hv1
    refine Br.itf hg1 (fun hb hg1 => ?_) fun hb hg1 => ?_
    · cases hg1
      cases hv1
      exact Wk.tab ⟨Le.refl _, Le.refl _, Le.refl _, Le.refl _, Le.refl _, Le.refl _, Le.refl _, True.intro⟩ True.intro rfl
    · refine ⟨_, List.length_map _, fun _ => ?_⟩
      cases hg1
      cases hv1
      exact Wk.tab ⟨Le.refl _, Le.refl _, Le.refl _, Le.refl _, Le.refl _, Le.refl _, Le.refl _, True.intro⟩ True.intro rfl
  refine Ok.cond (d := 36) (b := v1) rfl h (fun hb h => ?_) fun hb h => ?_
  · refine Ok.seq ?_
    refine Ok.region Try.tok ?_
    refine Ok.wk (Wk.tab (L := [(10, (vb x1))]) (H' := []) ⟨Le.refl _, True.intro⟩ True.intro rfl) ?_
    refine Ok.ret ?_
    cases h
    exact Fz.v
  · refine Ok.skip ?_
    refine Ok.seq ?_
    refine Ok.region Try.tok ?_
    refine Or.inr ?_
    refine Ok.wk (Wk.tab (L := [(0, (.s (List.map c_u16 p_gaps))), (1, (.s (List.map c_u16 p_server))), (2, (.s (List.map c_u16 p_client))), (3, (vu p_long)), (4, (vb p_kind)), (11, (vb x1)), (12, (.o 38))]) (H' := [(38, .own 3 1 (List.map Go.Cat.encI ([0])))]) ⟨Le.refl _, Le.refl _, Le.refl _, Le.refl _, Le.refl _, Le.refl _, Le.refl _, True.intro⟩ ⟨⟨_, rfl, .refl _⟩, True.intro⟩ rfl) ?_
    obtain ⟨v2, hv2, h⟩ := bindS h
    refine Ok.seqw ⟨Cat.tab [(1, (.s (List.map c_u16 p_server))), (2, (.s (List.map c_u16 p_client))), (3, (vu p_long)), (4, (vb p_kind)), (11, (vb x1)), (12, (.o 38))], [(38, .own 3 1 (List.map Go.Cat.encI v2))]⟩ ?_ ?_
    · refine Ok.seq ?_
      refine Ok.region Try.tok ?_
      refine Ok.wk (Wk.tab (L := [(0, (.s (List.map c_u16 p_gaps))), (1, (.s (List.map c_u16 p_server))), (2, (.s (List.map c_u16 p_client))), (3, (vu p_long)), (4, (vb p_kind)), (11, (vb x1)), (12, (.o 38)), (13, (vi (0)))]) (H' := [(38, .own 3 1 (List.map Go.Cat.encI ([0])))]) ⟨Le.refl _, Le.refl _, Le.refl _, Le.refl _, Le.refl _, Le.refl _, Le.refl _, Le.refl _, True.intro⟩ ⟨⟨_, rfl, .refl _⟩, True.intro⟩ rfl) ?_
      refine Ok.block ?_
      refine Ok.loop (fun (s1 : Int × (List Int)) => ⟨Cat.tab [(0, (.s (List.map c_u16 p_gaps))), (1, (.s (List.map c_u16 p_server))), (2, (.s (List.map c_u16 p_client))), (3, (vu p_long)), (4, (vb p_kind)), (11, (vb x1)), (12, (.o 38)), (13, (vi s1.1))], [(38, .own 3 1 (List.map Go.Cat.encI s1.2))]⟩) (law22_LeaseClocks_B1 p_gaps) (s0 := (0, [0])) hv2 (Wk.tab ⟨Le.refl _, Le.refl _, Le.refl _, Le.refl _, Le.refl _, Le.refl _, Le.refl _, Le.refl _, True.intro⟩ ⟨⟨_, rfl, .refl _⟩, True.intro⟩ rfl) ?_
      intro s1 y1 hB1 hy1
      unfold law22_LeaseClocks_B1 at hB1
      refine Ok.seq ?_
      refine Ok.seq ?_
      refine Ok.region Try.tok ?_
      refine ⟨_, List.length_map _, fun _ => ?_⟩
      refine Ok.wk (Wk.tab (L := [(0, (.s (List.map c_u16 p_gaps))), (1, (.s (List.map c_u16 p_server))), (2, (.s (List.map c_u16 p_client))), (3, (vu p_long)), (4, (vb p_kind)), (11, (vb x1)), (12, (.o 38)), (13, (vi s1.1)), (42, (vb ((decide (s1.1 < (p_gaps.length : Int))))))]) (H' := [(38, .own 3 1 (List.map Go.Cat.encI s1.2))]) ⟨Le.refl _, Le.refl _, Le.refl _, Le.refl _, Le.refl _, Le.refl _, Le.refl _, Le.refl _, Le.refl _, True.intro⟩ ⟨⟨_, rfl, .refl _⟩, True.intro⟩ rfl) ?_
      refine Ok.cond (d := 42) (b := (decide (s1.1 < (p_gaps.length : Int)))) rfl hB1 (fun hb hB1 => ?_) fun hb hB1 => ?_
      · refine Ok.skip ?_
        refine Ok.seq ?_
        refine Ok.block ?_
        refine Ok.draw (m := 13) (MD := ⟨[]⟩) (CH := ⟨[]⟩) Try.tok Try.mixed (by kernel_rfl) ?_
        obtain ⟨x2, hx2, hB1⟩ := bindS hB1
        obtain ⟨x3, hx3, hB1⟩ := bindS hB1
        obtain ⟨hc1, hB1⟩ := chk_some hB1
        obtain ⟨hc2, hB1⟩ := chk_some hB1
        refine ⟨_, rfl, ⟨_, rfl, ⟨_, rfl, ⟨_, ⟨_, idx_nat hx2, idx_ltm hx2, rfl⟩, ⟨_, ⟨_, idx_row hx2, rfl, _, rfl, rfl⟩, ⟨_, rfl, ⟨_, rfl, ⟨_, ⟨_, idx_nat hx3, _, idx_row hx3, rfl⟩, ⟨_, ⟨_, rfl, rfl⟩, ⟨_, ⟨_, rfl, rfl⟩, ⟨_, ⟨(by decide), _, rfl, rfl⟩, ⟨_, (Or.inl ⟨hc1, rfl⟩), ⟨_, rfl, ⟨True.intro, ⟨rowsLen_map (f := Go.Cat.encI) (n := 1) (fun _ => rfl) ([(x2 + (Int.tmod ((IntKind.i64.wrap x3)) (200)))]), app_b2 (f := Go.Cat.encI) (l := s1.2) (l' := ([(x2 + (Int.tmod ((IntKind.i64.wrap x3)) (200)))])) hc2, _, (List.map_append (f := Go.Cat.encI) (l₁ := s1.2) (l₂ := ([(x2 + (Int.tmod ((IntKind.i64.wrap x3)) (200)))]))).symm, ?_⟩⟩⟩⟩⟩⟩⟩⟩⟩⟩⟩⟩⟩⟩⟩
        refine Ok.wk (Wk.tab (L := [(0, (.s (List.map c_u16 p_gaps))), (1, (.s (List.map c_u16 p_server))), (2, (.s (List.map c_u16 p_client))), (3, (vu p_long)), (4, (vb p_kind)), (11, (vb x1)), (12, (.o 38)), (13, (vi s1.1))]) (H' := [(38, .own 3 1 (List.map Go.Cat.encI ((s1.2 ++ [(x2 + (Int.tmod ((IntKind.i64.wrap x3)) (200)))]))))]) ⟨Le.refl _, Le.refl _, Le.refl _, Le.refl _, Le.refl _, Le.refl _, Le.refl _, Le.refl _, True.intro⟩ ⟨⟨_, rfl, .refl _⟩, True.intro⟩ rfl) ?_
        refine Ok.region Try.tok ?_
        obtain ⟨hc3, hB1⟩ := chk_some hB1
        refine (Or.inl ⟨hc3, ?_⟩)
        exact ⟨_, (Option.some.inj hB1).symm, Wk.tab ⟨Le.refl _, Le.refl _, Le.refl _, Le.refl _, Le.refl _, Le.refl _, Le.refl _, Le.refl _, True.intro⟩ ⟨⟨_, rfl, .refl _⟩, True.intro⟩ rfl⟩
      · refine Ok.exit ?_
        have hB1 := out_ret hB1 hy1
        cases hB1
        exact Wk.tab ⟨Le.refl _, Le.refl _, Le.refl _, Le.refl _, Le.refl _, Le.refl _, True.intro⟩ ⟨⟨_, rfl, .refl _⟩, True.intro⟩ rfl
    refine Ok.seq ?_
    refine Ok.region Try.tok ?_
    obtain ⟨x4, hx4, h⟩ := bindS h
    refine CallOk.freeze (id := 38) rfl (CallOk.call (w_law03_Shows hx4) (LeL.refl _) ?_)
    obtain ⟨x5, hx5, h⟩ := bindS h
    refine CallOk.call (w_law03_Shows hx5) (LeL.refl _) ?_
    refine Ok.wk (Wk.tab (L := [(3, (vu p_long)), (4, (vb p_kind)), (11, (vb x1)), (12, (.s (List.map Go.Cat.encI v2))), (14, (.s (List.map Go.Cat.encI x4))), (15, (.s (List.map Go.Cat.encI x5)))]) (H' := []) ⟨Le.refl _, Le.refl _, Le.refl _, Le.refl _, Le.refl _, Le.refl _, True.intro⟩ True.intro rfl) ?_
    refine Ok.seq ?_
    obtain ⟨v3, hv3, h⟩ := bindS h
    refine Ok.seqw ⟨Cat.tab [(3, (vu p_long)), (4, (vb p_kind)), (11, (vb x1)), (12, (.s (List.map Go.Cat.encI v2))), (14, (.s (List.map Go.Cat.encI x4))), (15, (.s (List.map Go.Cat.encI x5))), (74, (vb v3))], []⟩ ?_ ?_
    · refine Ok.region Try.tok ?_
      obtain ⟨x6, hx6, hv3⟩ := bindS hv3
      refine CallOk.call (w_clock_Right hx6) (LeL.refl _) ?_
      obtain ⟨c2, hg2, hv3⟩ := bindS hv3
      refine Br.itf hg2 (fun hb hg2 => ?_) fun hb hg2 => ?_
      · cases hg2
        cases hv3
        exact Wk.tab ⟨Le.refl _, Le.refl _, Le.refl _, Le.refl _, Le.refl _, Le.refl _, Le.refl _, True.intro⟩ True.intro rfl
      · obtain ⟨x7, hx7, hg2⟩ := bindS hg2
        refine CallOk.call (w_clock_Right hx7) (LeL.refl _) ?_
        cases hg2
        cases hv3
        exact Wk.tab ⟨Le.refl _, Le.refl _, Le.refl _, Le.refl _, Le.refl _, Le.refl _, Le.refl _, True.intro⟩ True.intro rfl
    refine Ok.cond (d := 74) (b := v3) rfl h (fun hb h => ?_) fun hb h => ?_
    · refine Ok.seq ?_
      refine Ok.region Try.tok ?_
      refine Ok.wk (Wk.tab (L := [(10, (vb x1))]) (H' := []) ⟨Le.refl _, True.intro⟩ True.intro rfl) ?_
      refine Ok.ret ?_
      cases h
      exact Fz.v
    · refine Ok.skip ?_
      refine Ok.seq ?_
      refine Ok.region Try.tok ?_
      obtain ⟨hc4, h⟩ := chk_some h
      refine ⟨_, wrap_of_u8 (k := .i64) (by decide) _, ⟨(by decide), _, rfl, (Or.inl ⟨hc4, ?_⟩)⟩⟩
      refine Ok.wk (Wk.tab (L := [(4, (vb p_kind)), (11, (vb x1)), (12, (.s (List.map Go.Cat.encI v2))), (14, (.s (List.map Go.Cat.encI x4))), (15, (.s (List.map Go.Cat.encI x5))), (16, (vi ((1 + (Int.tmod ((p_long.toNat : Int)) (64))))))]) (H' := []) ⟨Le.refl _, Le.refl _, Le.refl _, Le.refl _, Le.refl _, Le.refl _, True.intro⟩ True.intro rfl) ?_
      refine Ok.seq ?_
      refine Ok.region Try.tok ?_
      obtain ⟨x8, hx8, h⟩ := bindS h
      refine CallOk.call (w_law22_ask hx8) (LeL.refl _) ?_
      obtain ⟨x9, hx9, h⟩ := bindS h
      refine CallOk.call (w_law22_ask hx9) (LeL.refl _) ?_
      refine ⟨_, rfl, ⟨_, rfl, ?_⟩⟩
      refine Ok.wk (Wk.tab (L := [(4, (vb p_kind)), (11, (vb x1)), (12, (.s (List.map Go.Cat.encI v2))), (14, (.s (List.map Go.Cat.encI x4))), (15, (.s (List.map Go.Cat.encI x5))), (16, (vi ((1 + (Int.tmod ((p_long.toNat : Int)) (64)))))), (17, (.b 17 0)), (18, (.b 18 0))]) (H' := [(17, .box [(vi x8.Client), (vi x8.Ino), (vi x8.Kind), (vi x8.Span.From), (vi x8.Span.To), (vi x8.Until), (vi x8.Epoch)]), (18, .box [(vi x9.Client), (vi x9.Ino), (vi x9.Kind), (vi x9.Span.From), (vi x9.Span.To), (vi x9.Until), (vi x9.Epoch)])]) ⟨Le.refl _, Le.refl _, Le.refl _, Le.refl _, Le.refl _, Le.refl _, Le.refl _, Le.refl _, True.intro⟩ ⟨⟨_, rfl, .refl _⟩, ⟨_, rfl, .refl _⟩, True.intro⟩ rfl) ?_
      obtain ⟨v4, hv4, h⟩ := bindS h
      refine Ok.seqw ⟨Cat.tab [(11, (vb x1)), (12, (.s (List.map Go.Cat.encI v2))), (14, (.s (List.map Go.Cat.encI x4))), (15, (.s (List.map Go.Cat.encI x5))), (16, (vi ((1 + (Int.tmod ((p_long.toNat : Int)) (64)))))), (17, (.b 17 0)), (18, (.b 18 0))], [(17, .box [(vi v4.1), (vi v4.2.1), (vi v4.2.2.1), (vi v4.2.2.2.1), (vi v4.2.2.2.2.1), (vi v4.2.2.2.2.2.1), (vi v4.2.2.2.2.2.2.1)]), (18, .box [(vi v4.2.2.2.2.2.2.2.1), (vi v4.2.2.2.2.2.2.2.2.1), (vi v4.2.2.2.2.2.2.2.2.2.1), (vi v4.2.2.2.2.2.2.2.2.2.2.1), (vi v4.2.2.2.2.2.2.2.2.2.2.2.1), (vi v4.2.2.2.2.2.2.2.2.2.2.2.2.1), (vi v4.2.2.2.2.2.2.2.2.2.2.2.2.2)])]⟩ ?_ ?_
      · refine Ok.seq ?_
        refine Ok.region Try.tok ?_
        refine Ok.wk (Wk.tab (L := [(11, (vb x1)), (12, (.s (List.map Go.Cat.encI v2))), (14, (.s (List.map Go.Cat.encI x4))), (15, (.s (List.map Go.Cat.encI x5))), (16, (vi ((1 + (Int.tmod ((p_long.toNat : Int)) (64)))))), (17, (.b 17 0)), (18, (.b 18 0)), (82, (vb p_kind))]) (H' := [(17, .box [(vi x8.Client), (vi x8.Ino), (vi x8.Kind), (vi x8.Span.From), (vi x8.Span.To), (vi x8.Until), (vi x8.Epoch)]), (18, .box [(vi x9.Client), (vi x9.Ino), (vi x9.Kind), (vi x9.Span.From), (vi x9.Span.To), (vi x9.Until), (vi x9.Epoch)])]) ⟨Le.refl _, Le.refl _, Le.refl _, Le.refl _, Le.refl _, Le.refl _, Le.refl _, Le.refl _, True.intro⟩ ⟨⟨_, rfl, .refl _⟩, ⟨_, rfl, .refl _⟩, True.intro⟩ rfl) ?_
        refine Ok.cond (d := 82) (b := p_kind) rfl hv4 (fun hb hv4 => ?_) fun hb hv4 => ?_
        · refine Ok.region Try.tok ?_
          obtain ⟨x10, hx10, hv4⟩ := bindS hv4
          refine CallOk.call (w_law22_ask hx10) (LeL.refl _) ?_
          obtain ⟨x11, hx11, hv4⟩ := bindS hv4
          refine CallOk.call (w_law22_ask hx11) (LeL.refl _) ?_
          refine ⟨_, rfl, ⟨_, rfl, ?_⟩⟩
          cases hv4
          exact Wk.tab ⟨Le.refl _, Le.refl _, Le.refl _, Le.refl _, Le.refl _, Le.refl _, Le.refl _, True.intro⟩ ⟨⟨_, rfl, .refl _⟩, ⟨_, rfl, .refl _⟩, True.intro⟩ rfl
        · refine Ok.skip ?_
          cases hv4
          exact Wk.tab ⟨Le.refl _, Le.refl _, Le.refl _, Le.refl _, Le.refl _, Le.refl _, Le.refl _, True.intro⟩ ⟨⟨_, rfl, .refl _⟩, ⟨_, rfl, .refl _⟩, True.intro⟩ rfl
      refine Ok.seq ?_
      refine Ok.draw (m := 13) (MD := ⟨[]⟩) (CH := ⟨[]⟩) Try.tok Try.mixed (by kernel_rfl) ?_
      obtain ⟨x12, hx12, h⟩ := bindS h
      obtain ⟨x13, hx13, h⟩ := bindS h
      refine ⟨_, rfl, ⟨_, ⟨_, idx_nat hx12, _, idx_row hx12, rfl⟩, ⟨_, ⟨_, rfl, rfl⟩, ⟨_, ⟨_, rfl, rfl⟩, ⟨_, rfl, ⟨_, ⟨_, .of_pure (w_lease_Ask hx13) (.cons (Le.nil) (.cons (Le.refl _) (.cons (Le.refl _) (.cons (Le.refl _) (.nil))))), rfl⟩, ⟨_, rfl, ⟨_, rfl, ⟨_, rfl, ⟨_, rfl, ⟨_, rfl, ⟨_, rfl, ⟨_, rfl, ⟨True.intro, ?_⟩⟩⟩⟩⟩⟩⟩⟩⟩⟩⟩⟩⟩⟩
      refine Ok.wk (Wk.tab (L := [(11, (vb x1)), (12, (.s (List.map Go.Cat.encI v2))), (14, (.s (List.map Go.Cat.encI x4))), (15, (.s (List.map Go.Cat.encI x5))), (16, (vi ((1 + (Int.tmod ((p_long.toNat : Int)) (64)))))), (17, (.b 17 0)), (18, (.b 18 0)), (19, (.s (List.map c_api_Lease x13.1))), (20, (vb x13.2.1))]) (H' := [(17, .box [(vi v4.1), (vi v4.2.1), (vi v4.2.2.1), (vi v4.2.2.2.1), (vi v4.2.2.2.2.1), (vi v4.2.2.2.2.2.1), (vi v4.2.2.2.2.2.2.1)]), (18, .box [(vi v4.2.2.2.2.2.2.2.1), (vi v4.2.2.2.2.2.2.2.2.1), (vi v4.2.2.2.2.2.2.2.2.2.1), (vi v4.2.2.2.2.2.2.2.2.2.2.1), (vi v4.2.2.2.2.2.2.2.2.2.2.2.1), (vi v4.2.2.2.2.2.2.2.2.2.2.2.2.1), (vi v4.2.2.2.2.2.2.2.2.2.2.2.2.2)])]) ⟨Le.refl _, Le.refl _, Le.refl _, Le.refl _, Le.refl _, Le.refl _, Le.refl _, Le.refl _, Le.refl _, True.intro⟩ ⟨⟨_, rfl, .refl _⟩, ⟨_, rfl, .refl _⟩, True.intro⟩ rfl) ?_
      refine Ok.seq ?_
      refine Ok.seq ?_
      refine Ok.region Try.tok ?_
      refine Ok.wk (Wk.tab (L := [(11, (vb x1)), (12, (.s (List.map Go.Cat.encI v2))), (14, (.s (List.map Go.Cat.encI x4))), (15, (.s (List.map Go.Cat.encI x5))), (16, (vi ((1 + (Int.tmod ((p_long.toNat : Int)) (64)))))), (17, (.b 17 0)), (18, (.b 18 0)), (19, (.s (List.map c_api_Lease x13.1))), (96, (vb ((!x13.2.1))))]) (H' := [(17, .box [(vi v4.1), (vi v4.2.1), (vi v4.2.2.1), (vi v4.2.2.2.1), (vi v4.2.2.2.2.1), (vi v4.2.2.2.2.2.1), (vi v4.2.2.2.2.2.2.1)]), (18, .box [(vi v4.2.2.2.2.2.2.2.1), (vi v4.2.2.2.2.2.2.2.2.1), (vi v4.2.2.2.2.2.2.2.2.2.1), (vi v4.2.2.2.2.2.2.2.2.2.2.1), (vi v4.2.2.2.2.2.2.2.2.2.2.2.1), (vi v4.2.2.2.2.2.2.2.2.2.2.2.2.1), (vi v4.2.2.2.2.2.2.2.2.2.2.2.2.2)])]) ⟨Le.refl _, Le.refl _, Le.refl _, Le.refl _, Le.refl _, Le.refl _, Le.refl _, Le.refl _, Le.refl _, True.intro⟩ ⟨⟨_, rfl, .refl _⟩, ⟨_, rfl, .refl _⟩, True.intro⟩ rfl) ?_
      refine Ok.cond (d := 96) (b := (!x13.2.1)) rfl h (fun hb h => ?_) fun hb h => ?_
      · refine Ok.seq ?_
        refine Ok.region Try.tok ?_
        refine Ok.wk (Wk.tab (L := [(10, (vb false))]) (H' := []) ⟨Le.refl _, True.intro⟩ True.intro rfl) ?_
        refine Ok.ret ?_
        cases h
        exact Fz.v
      · refine Ok.skip ?_
        refine Ok.seqj (fun v5 => ⟨Cat.tab [(11, (vb x1))], []⟩) (fun v5 => law22_LeaseClocks_J1 x1 v5 = some r) ?_ ?_
        · refine Ok.seq ?_
          refine Ok.region Try.tok ?_
          refine Ok.wk (Wk.tab (L := [(11, (vb x1)), (12, (.s (List.map Go.Cat.encI v2))), (14, (.s (List.map Go.Cat.encI x4))), (15, (.s (List.map Go.Cat.encI x5))), (16, (vi ((1 + (Int.tmod ((p_long.toNat : Int)) (64)))))), (17, (.b 17 0)), (18, (.b 18 0)), (19, (.s (List.map c_api_Lease x13.1))), (22, (vi (1)))]) (H' := [(17, .box [(vi v4.1), (vi v4.2.1), (vi v4.2.2.1), (vi v4.2.2.2.1), (vi v4.2.2.2.2.1), (vi v4.2.2.2.2.2.1), (vi v4.2.2.2.2.2.2.1)]), (18, .box [(vi v4.2.2.2.2.2.2.2.1), (vi v4.2.2.2.2.2.2.2.2.1), (vi v4.2.2.2.2.2.2.2.2.2.1), (vi v4.2.2.2.2.2.2.2.2.2.2.1), (vi v4.2.2.2.2.2.2.2.2.2.2.2.1), (vi v4.2.2.2.2.2.2.2.2.2.2.2.2.1), (vi v4.2.2.2.2.2.2.2.2.2.2.2.2.2)])]) ⟨Le.refl _, Le.refl _, Le.refl _, Le.refl _, Le.refl _, Le.refl _, Le.refl _, Le.refl _, Le.refl _, True.intro⟩ ⟨⟨_, rfl, .refl _⟩, ⟨_, rfl, .refl _⟩, True.intro⟩ rfl) ?_
          refine Ok.block ?_
          refine Ok.loop (fun (s2 : Int) => ⟨Cat.tab [(11, (vb x1)), (12, (.s (List.map Go.Cat.encI v2))), (14, (.s (List.map Go.Cat.encI x4))), (15, (.s (List.map Go.Cat.encI x5))), (16, (vi ((1 + (Int.tmod ((p_long.toNat : Int)) (64)))))), (17, (.b 17 0)), (18, (.b 18 0)), (19, (.s (List.map c_api_Lease x13.1))), (22, (vi s2))], [(17, .box [(vi v4.1), (vi v4.2.1), (vi v4.2.2.1), (vi v4.2.2.2.1), (vi v4.2.2.2.2.1), (vi v4.2.2.2.2.2.1), (vi v4.2.2.2.2.2.2.1)]), (18, .box [(vi v4.2.2.2.2.2.2.2.1), (vi v4.2.2.2.2.2.2.2.2.1), (vi v4.2.2.2.2.2.2.2.2.2.1), (vi v4.2.2.2.2.2.2.2.2.2.2.1), (vi v4.2.2.2.2.2.2.2.2.2.2.2.1), (vi v4.2.2.2.2.2.2.2.2.2.2.2.2.1), (vi v4.2.2.2.2.2.2.2.2.2.2.2.2.2)])]⟩) (law22_LeaseClocks_B2 v2 x5 p_long x4 x13 v4 x1) (s0 := 1) h (Wk.tab ⟨Le.refl _, Le.refl _, Le.refl _, Le.refl _, Le.refl _, Le.refl _, Le.refl _, Le.refl _, Le.refl _, True.intro⟩ ⟨⟨_, rfl, .refl _⟩, ⟨_, rfl, .refl _⟩, True.intro⟩ rfl) ?_
          intro s2 y2 hB2 hy2
          unfold law22_LeaseClocks_B2 at hB2
          refine Ok.seq ?_
          refine Ok.seq ?_
          refine Ok.region Try.tok ?_
          refine ⟨_, List.length_map _, fun _ => ?_⟩
          refine Ok.wk (Wk.tab (L := [(11, (vb x1)), (12, (.s (List.map Go.Cat.encI v2))), (14, (.s (List.map Go.Cat.encI x4))), (15, (.s (List.map Go.Cat.encI x5))), (16, (vi ((1 + (Int.tmod ((p_long.toNat : Int)) (64)))))), (17, (.b 17 0)), (18, (.b 18 0)), (19, (.s (List.map c_api_Lease x13.1))), (22, (vi s2)), (100, (vb ((decide (s2 < (v2.length : Int))))))]) (H' := [(17, .box [(vi v4.1), (vi v4.2.1), (vi v4.2.2.1), (vi v4.2.2.2.1), (vi v4.2.2.2.2.1), (vi v4.2.2.2.2.2.1), (vi v4.2.2.2.2.2.2.1)]), (18, .box [(vi v4.2.2.2.2.2.2.2.1), (vi v4.2.2.2.2.2.2.2.2.1), (vi v4.2.2.2.2.2.2.2.2.2.1), (vi v4.2.2.2.2.2.2.2.2.2.2.1), (vi v4.2.2.2.2.2.2.2.2.2.2.2.1), (vi v4.2.2.2.2.2.2.2.2.2.2.2.2.1), (vi v4.2.2.2.2.2.2.2.2.2.2.2.2.2)])]) ⟨Le.refl _, Le.refl _, Le.refl _, Le.refl _, Le.refl _, Le.refl _, Le.refl _, Le.refl _, Le.refl _, Le.refl _, True.intro⟩ ⟨⟨_, rfl, .refl _⟩, ⟨_, rfl, .refl _⟩, True.intro⟩ rfl) ?_
          refine Ok.cond (d := 100) (b := (decide (s2 < (v2.length : Int)))) rfl hB2 (fun hb hB2 => ?_) fun hb hB2 => ?_
          · refine Ok.skip ?_
            refine Ok.seq ?_
            refine Ok.block ?_
            refine Ok.seq ?_
            refine Ok.draw (m := 11) (MD := ⟨[]⟩) (CH := ⟨[]⟩) Try.tok Try.mixed (by kernel_rfl) ?_
            obtain ⟨x14, hx14, hB2⟩ := bindS hB2
            obtain ⟨x15, hx15, hB2⟩ := bindS hB2
            obtain ⟨hc5, hB2⟩ := chk_some hB2
            refine ⟨_, rfl, ⟨_, rfl, ⟨_, ⟨_, idx_nat hx14, _, idx_row hx14, rfl⟩, ⟨_, ⟨_, rfl, rfl⟩, ⟨_, rfl, ⟨_, ⟨_, idx_nat hx15, _, idx_row hx15, rfl⟩, ⟨_, ⟨_, rfl, rfl⟩, ⟨_, rfl, ⟨_, (Or.inl ⟨hc5, rfl⟩), ⟨_, rfl, ⟨_, rfl, ⟨True.intro, ?_⟩⟩⟩⟩⟩⟩⟩⟩⟩⟩⟩⟩
            refine Ok.wk (Wk.tab (L := [(11, (vb x1)), (12, (.s (List.map Go.Cat.encI v2))), (14, (.s (List.map Go.Cat.encI x4))), (15, (.s (List.map Go.Cat.encI x5))), (16, (vi ((1 + (Int.tmod ((p_long.toNat : Int)) (64)))))), (17, (.b 17 0)), (18, (.b 18 0)), (19, (.s (List.map c_api_Lease x13.1))), (22, (vi s2)), (23, (vb ((decide (x14 < (x15 + (1 + (Int.tmod ((p_long.toNat : Int)) (64)))))))))]) (H' := [(17, .box [(vi v4.1), (vi v4.2.1), (vi v4.2.2.1), (vi v4.2.2.2.1), (vi v4.2.2.2.2.1), (vi v4.2.2.2.2.2.1), (vi v4.2.2.2.2.2.2.1)]), (18, .box [(vi v4.2.2.2.2.2.2.2.1), (vi v4.2.2.2.2.2.2.2.2.1), (vi v4.2.2.2.2.2.2.2.2.2.1), (vi v4.2.2.2.2.2.2.2.2.2.2.1), (vi v4.2.2.2.2.2.2.2.2.2.2.2.1), (vi v4.2.2.2.2.2.2.2.2.2.2.2.2.1), (vi v4.2.2.2.2.2.2.2.2.2.2.2.2.2)])]) ⟨Le.refl _, Le.refl _, Le.refl _, Le.refl _, Le.refl _, Le.refl _, Le.refl _, Le.refl _, Le.refl _, Le.refl _, True.intro⟩ ⟨⟨_, rfl, .refl _⟩, ⟨_, rfl, .refl _⟩, True.intro⟩ rfl) ?_
            refine Ok.seq ?_
            refine Ok.draw (m := 13) (MD := ⟨[]⟩) (CH := ⟨[]⟩) Try.tok Try.mixed (by kernel_rfl) ?_
            obtain ⟨x16, hx16, hB2⟩ := bindS hB2
            obtain ⟨x17, hx17, hB2⟩ := bindS hB2
            obtain ⟨x18, hx18, hB2⟩ := bindS hB2
            refine ⟨_, rfl, ⟨_, rfl, ⟨_, rfl, ⟨_, ⟨_, idx_nat hx16, _, idx_row hx16, rfl⟩, ⟨_, ⟨_, rfl, rfl⟩, ⟨_, ⟨_, .of_pure (w_lease_Over hx17) (LeL.refl _), rfl⟩, ⟨_, rfl, ⟨_, ⟨_, rfl, rfl⟩, ⟨_, rfl, ⟨_, ⟨_, rfl, rfl⟩, ⟨_, ⟨_, .of_pure (w_lease_Has hx18) (LeL.refl _), rfl⟩, ⟨_, rfl, ⟨_, rfl, ⟨True.intro, ?_⟩⟩⟩⟩⟩⟩⟩⟩⟩⟩⟩⟩⟩⟩
            refine Ok.wk (Wk.tab (L := [(11, (vb x1)), (12, (.s (List.map Go.Cat.encI v2))), (14, (.s (List.map Go.Cat.encI x4))), (15, (.s (List.map Go.Cat.encI x5))), (16, (vi ((1 + (Int.tmod ((p_long.toNat : Int)) (64)))))), (17, (.b 17 0)), (18, (.b 18 0)), (19, (.s (List.map c_api_Lease x13.1))), (22, (vi s2)), (23, (vb ((decide (x14 < (x15 + (1 + (Int.tmod ((p_long.toNat : Int)) (64))))))))), (24, (vb ((!x18))))]) (H' := [(17, .box [(vi v4.1), (vi v4.2.1), (vi v4.2.2.1), (vi v4.2.2.2.1), (vi v4.2.2.2.2.1), (vi v4.2.2.2.2.2.1), (vi v4.2.2.2.2.2.2.1)]), (18, .box [(vi v4.2.2.2.2.2.2.2.1), (vi v4.2.2.2.2.2.2.2.2.1), (vi v4.2.2.2.2.2.2.2.2.2.1), (vi v4.2.2.2.2.2.2.2.2.2.2.1), (vi v4.2.2.2.2.2.2.2.2.2.2.2.1), (vi v4.2.2.2.2.2.2.2.2.2.2.2.2.1), (vi v4.2.2.2.2.2.2.2.2.2.2.2.2.2)])]) ⟨Le.refl _, Le.refl _, Le.refl _, Le.refl _, Le.refl _, Le.refl _, Le.refl _, Le.refl _, Le.refl _, Le.refl _, Le.refl _, True.intro⟩ ⟨⟨_, rfl, .refl _⟩, ⟨_, rfl, .refl _⟩, True.intro⟩ rfl) ?_
            refine Ok.seq ?_
            refine Ok.draw (m := 15) (MD := ⟨[]⟩) (CH := ⟨[]⟩) Try.tok Try.mixed (by kernel_rfl) ?_
            obtain ⟨x19, hx19, hB2⟩ := bindS hB2
            obtain ⟨x20, hx20, hB2⟩ := bindS hB2
            refine ⟨_, rfl, ⟨_, rfl, ⟨_, rfl, ⟨_, ⟨_, idx_nat hx19, _, idx_row hx19, rfl⟩, ⟨_, ⟨_, rfl, rfl⟩, ⟨_, ⟨_, rfl, rfl⟩, ⟨_, rfl, ⟨_, ⟨_, .of_pure (w_lease_Ask hx20) (LeL.refl _), rfl⟩, ⟨_, rfl, ⟨_, rfl, ⟨_, rfl, ⟨_, rfl, ⟨_, rfl, ⟨_, rfl, ⟨_, rfl, ⟨True.intro, ?_⟩⟩⟩⟩⟩⟩⟩⟩⟩⟩⟩⟩⟩⟩⟩⟩
            refine Ok.wk (Wk.tab (L := [(11, (vb x1)), (12, (.s (List.map Go.Cat.encI v2))), (14, (.s (List.map Go.Cat.encI x4))), (15, (.s (List.map Go.Cat.encI x5))), (16, (vi ((1 + (Int.tmod ((p_long.toNat : Int)) (64)))))), (17, (.b 17 0)), (18, (.b 18 0)), (19, (.s (List.map c_api_Lease x13.1))), (22, (vi s2)), (23, (vb ((decide (x14 < (x15 + (1 + (Int.tmod ((p_long.toNat : Int)) (64))))))))), (24, (vb ((!x18)))), (26, (vb x20.2.1)), (27, (.s (List.map Go.Cat.encI x20.2.2)))]) (H' := [(17, .box [(vi v4.1), (vi v4.2.1), (vi v4.2.2.1), (vi v4.2.2.2.1), (vi v4.2.2.2.2.1), (vi v4.2.2.2.2.2.1), (vi v4.2.2.2.2.2.2.1)]), (18, .box [(vi v4.2.2.2.2.2.2.2.1), (vi v4.2.2.2.2.2.2.2.2.1), (vi v4.2.2.2.2.2.2.2.2.2.1), (vi v4.2.2.2.2.2.2.2.2.2.2.1), (vi v4.2.2.2.2.2.2.2.2.2.2.2.1), (vi v4.2.2.2.2.2.2.2.2.2.2.2.2.1), (vi v4.2.2.2.2.2.2.2.2.2.2.2.2.2)])]) ⟨Le.refl _, Le.refl _, Le.refl _, Le.refl _, Le.refl _, Le.refl _, Le.refl _, Le.refl _, Le.refl _, Le.refl _, Le.refl _, Le.refl _, Le.refl _, True.intro⟩ ⟨⟨_, rfl, .refl _⟩, ⟨_, rfl, .refl _⟩, True.intro⟩ rfl) ?_
            obtain ⟨v6, hv6, hB2⟩ := bindS hB2
            refine Ok.seqw ⟨Cat.tab [(11, (vb x1)), (12, (.s (List.map Go.Cat.encI v2))), (14, (.s (List.map Go.Cat.encI x4))), (15, (.s (List.map Go.Cat.encI x5))), (16, (vi ((1 + (Int.tmod ((p_long.toNat : Int)) (64)))))), (17, (.b 17 0)), (18, (.b 18 0)), (19, (.s (List.map c_api_Lease x13.1))), (22, (vi s2)), (155, (vb v6))], [(17, .box [(vi v4.1), (vi v4.2.1), (vi v4.2.2.1), (vi v4.2.2.2.1), (vi v4.2.2.2.2.1), (vi v4.2.2.2.2.2.1), (vi v4.2.2.2.2.2.2.1)]), (18, .box [(vi v4.2.2.2.2.2.2.2.1), (vi v4.2.2.2.2.2.2.2.2.1), (vi v4.2.2.2.2.2.2.2.2.2.1), (vi v4.2.2.2.2.2.2.2.2.2.2.1), (vi v4.2.2.2.2.2.2.2.2.2.2.2.1), (vi v4.2.2.2.2.2.2.2.2.2.2.2.2.1), (vi v4.2.2.2.2.2.2.2.2.2.2.2.2.2)])]⟩ ?_ ?_
            · refine Ok.region Try.tok ?_
              obtain ⟨c4, hg3, hv6⟩ := bindS hv6
              refine Br.ite hg3 (fun hb hg3 => ?_) fun hb hg3 => ?_
              · obtain ⟨c3, hg4, hg3⟩ := bindS hg3
                refine Br.itf hg4 (fun hb hg4 => ?_) fun hb hg4 => ?_
                · cases hg4
                  cases hg3
                  obtain ⟨c5, hg5, hv6⟩ := bindS hv6
                  replace hg5 := iteT hg5
                  cases hg5
                  obtain ⟨c6, hg6, hv6⟩ := bindS hv6
                  replace hg6 := iteT hg6
                  cases hg6
                  cases hv6
                  exact Wk.tab ⟨Le.refl _, Le.refl _, Le.refl _, Le.refl _, Le.refl _, Le.refl _, Le.refl _, Le.refl _, Le.refl _, Le.refl _, True.intro⟩ ⟨⟨_, rfl, .refl _⟩, ⟨_, rfl, .refl _⟩, True.intro⟩ rfl
                · cases hg4
                  cases hg3
                  obtain ⟨c5, hg7, hv6⟩ := bindS hv6
                  refine Br.itf hg7 (fun hb hg7 => ?_) fun hb hg7 => ?_
                  · cases hg7
                    obtain ⟨c6, hg8, hv6⟩ := bindS hv6
                    replace hg8 := iteT hg8
                    cases hg8
                    cases hv6
                    exact Wk.tab ⟨Le.refl _, Le.refl _, Le.refl _, Le.refl _, Le.refl _, Le.refl _, Le.refl _, Le.refl _, Le.refl _, Le.refl _, True.intro⟩ ⟨⟨_, rfl, .refl _⟩, ⟨_, rfl, .refl _⟩, True.intro⟩ rfl
                  · refine ⟨_, List.length_map _, fun _ => ?_⟩
                    cases hg7
                    obtain ⟨c6, hg9, hv6⟩ := bindS hv6
                    refine Br.itf hg9 (fun hb hg9 => ?_) fun hb hg9 => ?_
                    · cases hg9
                      cases hv6
                      exact Wk.tab ⟨Le.refl _, Le.refl _, Le.refl _, Le.refl _, Le.refl _, Le.refl _, Le.refl _, Le.refl _, Le.refl _, Le.refl _, True.intro⟩ ⟨⟨_, rfl, .refl _⟩, ⟨_, rfl, .refl _⟩, True.intro⟩ rfl
                    · cases hg9
                      cases hv6
                      exact Wk.tab ⟨Le.refl _, Le.refl _, Le.refl _, Le.refl _, Le.refl _, Le.refl _, Le.refl _, Le.refl _, Le.refl _, Le.refl _, True.intro⟩ ⟨⟨_, rfl, .refl _⟩, ⟨_, rfl, .refl _⟩, True.intro⟩ rfl
              · cases hg3
                obtain ⟨c5, hg10, hv6⟩ := bindS hv6
                replace hg10 := iteF hg10
                refine ⟨_, List.length_map _, fun _ => ?_⟩
                cases hg10
                obtain ⟨c6, hg11, hv6⟩ := bindS hv6
                refine Br.itf hg11 (fun hb hg11 => ?_) fun hb hg11 => ?_
                · cases hg11
                  cases hv6
                  exact Wk.tab ⟨Le.refl _, Le.refl _, Le.refl _, Le.refl _, Le.refl _, Le.refl _, Le.refl _, Le.refl _, Le.refl _, Le.refl _, True.intro⟩ ⟨⟨_, rfl, .refl _⟩, ⟨_, rfl, .refl _⟩, True.intro⟩ rfl
                · cases hg11
                  cases hv6
                  exact Wk.tab ⟨Le.refl _, Le.refl _, Le.refl _, Le.refl _, Le.refl _, Le.refl _, Le.refl _, Le.refl _, Le.refl _, Le.refl _, True.intro⟩ ⟨⟨_, rfl, .refl _⟩, ⟨_, rfl, .refl _⟩, True.intro⟩ rfl
            refine Ok.cond (d := 155) (b := v6) rfl hB2 (fun hb hB2 => ?_) fun hb hB2 => ?_
            · refine Ok.seq ?_
              refine Ok.region Try.tok ?_
              refine Ok.wk (Wk.tab (L := [(10, (vb false))]) (H' := []) ⟨Le.refl _, True.intro⟩ True.intro rfl) ?_
              refine Ok.ret ?_
              have hB2 := out_ret hB2 hy2
              cases hB2
              exact Fz.v
            · refine Ok.skip ?_
              refine Ok.region Try.tok ?_
              obtain ⟨hc6, hB2⟩ := chk_some hB2
              refine (Or.inl ⟨hc6, ?_⟩)
              exact ⟨_, (Option.some.inj hB2).symm, Wk.tab ⟨Le.refl _, Le.refl _, Le.refl _, Le.refl _, Le.refl _, Le.refl _, Le.refl _, Le.refl _, Le.refl _, True.intro⟩ ⟨⟨_, rfl, .refl _⟩, ⟨_, rfl, .refl _⟩, True.intro⟩ rfl⟩
          · refine Ok.exit ?_
            have hB2 := out_ret hB2 hy2
            exact ⟨_, hB2, Wk.tab ⟨Le.refl _, True.intro⟩ True.intro rfl⟩
        intro v5 h
        unfold law22_LeaseClocks_J1 at h
        refine Ok.seq ?_
        refine Ok.region Try.tok ?_
        refine Ok.wk (Wk.tab (L := [(10, (vb x1))]) (H' := []) ⟨Le.refl _, True.intro⟩ True.intro rfl) ?_
        refine Ok.ret ?_
        cases h
        exact Fz.v

end Go.Proofs
