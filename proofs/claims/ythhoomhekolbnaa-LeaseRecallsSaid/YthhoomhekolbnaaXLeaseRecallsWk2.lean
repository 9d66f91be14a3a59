/- The walks of this seat beside the plain programs, part 2. No condition. -/
import Derived.Test.YthhoomhekolbnaaXLeaseRecallsEn
import Derived.Test.YthhoomhekolbnaaXLeaseRecallsWk0
import Derived.Test.YthhoomhekolbnaaXLeaseRecallsWk1
namespace Go.Proofs
set_option linter.all false
open Go Go.Cat
variable [M : Mono]
set_option maxRecDepth 100000

theorem w_law22_LeaseRecalls [Off] {p_l : List law22_Step} {p_q : api_Lease} {p_long : Int} {r : Bool} (h : law22_LeaseRecalls p_l p_q p_long = some r) : Pure Try.prog 5 [(.s (List.map c_law22_Step p_l)), (.a [(vi p_q.Client), (vi p_q.Ino), (vi p_q.Kind), (vi p_q.Span.From), (vi p_q.Span.To), (vi p_q.Until), (vi p_q.Epoch)]), (vi p_long)] (vb r) := by
  refine pure_of_ok (n := 150) (c := (Try.f5.body.getD .skip)) Try.tok Try.func5 (by kernel_rfl) rfl rfl (Nat.le_of_ble_eq_true rfl) ?_
  unfold law22_LeaseRecalls at h
  refine Ok.wk (Wk.tab (L := [(0, (.s (List.map c_law22_Step p_l))), (1, (.a [(vi p_q.Client), (vi p_q.Ino), (vi p_q.Kind), (vi p_q.Span.From), (vi p_q.Span.To), (vi p_q.Until), (vi p_q.Epoch)])), (2, (vi p_long))]) (H' := []) ⟨Le.refl _, Le.refl _, Le.refl _, True.intro⟩ True.intro rfl) ?_
  refine Ok.seq ?_
  refine Ok.region Try.tok ?_
  refine Ok.wk (Wk.tab (L := [(0, (.s (List.map c_law22_Step p_l))), (2, (vi p_long)), (4, (.b 4 0))]) (H' := [(4, .box [(vi p_q.Client), (vi p_q.Ino), (vi p_q.Kind), (vi p_q.Span.From), (vi p_q.Span.To), (vi p_q.Until), (vi p_q.Epoch)])]) ⟨Le.refl _, Le.refl _, Le.refl _, True.intro⟩ ⟨⟨_, rfl, .refl _⟩, True.intro⟩ rfl) ?_
  refine Ok.seq ?_
  refine Ok.region Try.tok ?_
  obtain ⟨x1, hx1, h⟩ := bindS h
  refine CallOk.call (w_law22_head hx1) (LeL.refl _) ?_
  refine Ok.wk (Wk.tab (L := [(0, (.s (List.map c_law22_Step p_l))), (2, (vi p_long)), (4, (.b 4 0)), (7, (vb x1))]) (H' := [(4, .box [(vi p_q.Client), (vi p_q.Ino), (vi p_q.Kind), (vi p_q.Span.From), (vi p_q.Span.To), (vi p_q.Until), (vi p_q.Epoch)])]) ⟨Le.refl _, Le.refl _, Le.refl _, Le.refl _, True.intro⟩ ⟨⟨_, rfl, .refl _⟩, True.intro⟩ rfl) ?_
  refine Ok.seq ?_
  refine Ok.region Try.tok ?_
  refine ⟨_, rfl, ?_⟩
  refine Ok.wk (Wk.tab (L := [(0, (.s (List.map c_law22_Step p_l))), (2, (vi p_long)), (4, (.b 4 0)), (7, (vb x1))]) (H' := [(4, .box [(vi p_q.Client), (vi p_q.Ino), (vi p_q.Kind), (vi p_q.Span.From), (vi p_q.Span.To), (vi (0)), (vi p_q.Epoch)])]) ⟨Le.refl _, Le.refl _, Le.refl _, Le.refl _, True.intro⟩ ⟨⟨_, rfl, .refl _⟩, True.intro⟩ rfl) ?_
  refine Ok.seq ?_
  refine Ok.region Try.tok ?_
  obtain ⟨x2, hx2, h⟩ := bindS h
  refine CallOk.call (w_law22_table hx2) (LeL.refl _) ?_
  refine Ok.wk (Wk.tab (L := [(2, (vi p_long)), (4, (.b 4 0)), (7, (vb x1)), (8, (.s (List.map c_api_Lease x2.1))), (9, (vi x2.2.1)), (10, (vb x2.2.2))]) (H' := [(4, .box [(vi p_q.Client), (vi p_q.Ino), (vi p_q.Kind), (vi p_q.Span.From), (vi p_q.Span.To), (vi (0)), (vi p_q.Epoch)])]) ⟨Le.refl _, Le.refl _, Le.refl _, Le.refl _, Le.refl _, Le.refl _, True.intro⟩ ⟨⟨_, rfl, .refl _⟩, True.intro⟩ rfl) ?_
  refine Ok.seq ?_
  obtain ⟨v1, hv1, h⟩ := bindS h
  refine Ok.seqw ⟨Cat.tab [(2, (vi p_long)), (4, (.b 4 0)), (7, (vb x1)), (8, (.s (List.map c_api_Lease x2.1))), (9, (vi x2.2.1)), (46, (vb v1))], [(4, .box [(vi p_q.Client), (vi p_q.Ino), (vi p_q.Kind), (vi p_q.Span.From), (vi p_q.Span.To), (vi (0)), (vi p_q.Epoch)])]⟩ ?_ ?_
  · refine Ok.region Try.tok ?_
    obtain ⟨c1, hg1, hv1⟩ := bindS hv1
    refine Br.itf hg1 (fun hb hg1 => ?_) fun hb hg1 => ?_
    · cases hg1
      obtain ⟨c2, hg2, hv1⟩ := bindS hv1
      replace hg2 := iteT hg2
      cases hg2
      obtain ⟨c3, hg3, hv1⟩ := bindS hv1
      replace hg3 := iteT hg3
      cases hg3
      cases hv1
      exact Wk.tab ⟨Le.refl _, Le.refl _, Le.refl _, Le.refl _, Le.refl _, Le.refl _, True.intro⟩ ⟨⟨_, rfl, .refl _⟩, True.intro⟩ rfl
    · obtain ⟨x3, hx3, hg1⟩ := bindS hg1
      refine ⟨_, rfl, ?_⟩
      refine CallOk.call (w_ref22_One hx3) (LeL.refl _) ?_
      cases hg1
      obtain ⟨c2, hg4, hv1⟩ := bindS hv1
      refine Br.itf hg4 (fun hb hg4 => ?_) fun hb hg4 => ?_
      · cases hg4
        obtain ⟨c3, hg5, hv1⟩ := bindS hv1
        replace hg5 := iteT hg5
        cases hg5
        cases hv1
        exact Wk.tab ⟨Le.refl _, Le.refl _, Le.refl _, Le.refl _, Le.refl _, Le.refl _, True.intro⟩ ⟨⟨_, rfl, .refl _⟩, True.intro⟩ rfl
      · cases hg4
        obtain ⟨c3, hg6, hv1⟩ := bindS hv1
        refine Br.itf hg6 (fun hb hg6 => ?_) fun hb hg6 => ?_
        · cases hg6
          cases hv1
          exact Wk.tab ⟨Le.refl _, Le.refl _, Le.refl _, Le.refl _, Le.refl _, Le.refl _, True.intro⟩ ⟨⟨_, rfl, .refl _⟩, True.intro⟩ rfl
        · cases hg6
          cases hv1
          exact Wk.tab ⟨Le.refl _, Le.refl _, Le.refl _, Le.refl _, Le.refl _, Le.refl _, True.intro⟩ ⟨⟨_, rfl, .refl _⟩, True.intro⟩ rfl
  refine Ok.cond (d := 46) (b := v1) rfl h (fun hb h => ?_) fun hb h => ?_
  · refine Ok.seq ?_
    refine Ok.region Try.tok ?_
    refine Ok.wk (Wk.tab (L := [(6, (vb x1))]) (H' := []) ⟨Le.refl _, True.intro⟩ True.intro rfl) ?_
    refine Ok.ret ?_
    cases h
    exact Fz.v
  · refine Ok.skip ?_
    refine Ok.seq ?_
    refine Ok.region Try.tok ?_
    obtain ⟨x4, hx4, h⟩ := bindS h
    refine ⟨_, rfl, ?_⟩
    refine CallOk.call (w_lease_Ask hx4) (LeL.refl _) ?_
    refine Ok.wk (Wk.tab (L := [(2, (vi p_long)), (4, (.b 4 0)), (7, (vb x1)), (8, (.s (List.map c_api_Lease x2.1))), (9, (vi x2.2.1)), (11, (.s (List.map c_api_Lease x4.1))), (12, (vb x4.2.1)), (13, (.s (List.map Go.Cat.encI x4.2.2)))]) (H' := [(4, .box [(vi p_q.Client), (vi p_q.Ino), (vi p_q.Kind), (vi p_q.Span.From), (vi p_q.Span.To), (vi (0)), (vi p_q.Epoch)])]) ⟨Le.refl _, Le.refl _, Le.refl _, Le.refl _, Le.refl _, Le.refl _, Le.refl _, Le.refl _, True.intro⟩ ⟨⟨_, rfl, .refl _⟩, True.intro⟩ rfl) ?_
    refine Ok.seq ?_
    refine Ok.region Try.tok ?_
    obtain ⟨x5, hx5, h⟩ := bindS h
    refine CallOk.call (w_lease_Over hx5) (LeL.refl _) ?_
    refine Ok.wk (Wk.tab (L := [(2, (vi p_long)), (4, (.b 4 0)), (7, (vb x1)), (8, (.s (List.map c_api_Lease x2.1))), (9, (vi x2.2.1)), (11, (.s (List.map c_api_Lease x4.1))), (12, (vb x4.2.1)), (13, (.s (List.map Go.Cat.encI x4.2.2))), (14, (.s (List.map c_api_Lease x5)))]) (H' := [(4, .box [(vi p_q.Client), (vi p_q.Ino), (vi p_q.Kind), (vi p_q.Span.From), (vi p_q.Span.To), (vi (0)), (vi p_q.Epoch)])]) ⟨Le.refl _, Le.refl _, Le.refl _, Le.refl _, Le.refl _, Le.refl _, Le.refl _, Le.refl _, Le.refl _, True.intro⟩ ⟨⟨_, rfl, .refl _⟩, True.intro⟩ rfl) ?_
    refine Ok.seq ?_
    obtain ⟨v2, hv2, h⟩ := bindS h
    refine Ok.seqw ⟨Cat.tab [(2, (vi p_long)), (4, (.b 4 0)), (7, (vb x1)), (8, (.s (List.map c_api_Lease x2.1))), (9, (vi x2.2.1)), (13, (.s (List.map Go.Cat.encI x4.2.2))), (14, (.s (List.map c_api_Lease x5))), (82, (vb v2))], [(4, .box [(vi p_q.Client), (vi p_q.Ino), (vi p_q.Kind), (vi p_q.Span.From), (vi p_q.Span.To), (vi (0)), (vi p_q.Epoch)])]⟩ ?_ ?_
    · refine Ok.region Try.tok ?_
      obtain ⟨x6, hx6, hv2⟩ := bindS hv2
      refine ⟨_, rfl, ?_⟩
      refine CallOk.call (w_ref22_Whose hx6) (LeL.refl _) ?_
      obtain ⟨x7, hx7, hv2⟩ := bindS hv2
      refine CallOk.call (w_ref14_Ints hx7) (LeL.refl _) ?_
      obtain ⟨c4, hg7, hv2⟩ := bindS hv2
      refine Br.itf hg7 (fun hb hg7 => ?_) fun hb hg7 => ?_
      · cases hg7
        obtain ⟨c6, hg8, hv2⟩ := bindS hv2
        replace hg8 := iteT hg8
        cases hg8
        cases hv2
        exact Wk.tab ⟨Le.refl _, Le.refl _, Le.refl _, Le.refl _, Le.refl _, Le.refl _, Le.refl _, Le.refl _, True.intro⟩ ⟨⟨_, rfl, .refl _⟩, True.intro⟩ rfl
      · refine ⟨_, List.length_map _, fun _ => ?_⟩
        cases hg7
        obtain ⟨c6, hg9, hv2⟩ := bindS hv2
        refine Br.itf hg9 (fun hb hg9 => ?_) fun hb hg9 => ?_
        · cases hg9
          cases hv2
          exact Wk.tab ⟨Le.refl _, Le.refl _, Le.refl _, Le.refl _, Le.refl _, Le.refl _, Le.refl _, Le.refl _, True.intro⟩ ⟨⟨_, rfl, .refl _⟩, True.intro⟩ rfl
        · obtain ⟨c5, hg10, hg9⟩ := bindS hg9
          refine Br.ite hg10 (fun hb hg10 => ?_) fun hb hg10 => ?_
          · obtain ⟨x8, hx8, hg10⟩ := bindS hg10
            refine CallOk.call (w_ref22_Same hx8) (LeL.refl _) ?_
            cases hg10
            cases hg9
            cases hv2
            exact Wk.tab ⟨Le.refl _, Le.refl _, Le.refl _, Le.refl _, Le.refl _, Le.refl _, Le.refl _, Le.refl _, True.intro⟩ ⟨⟨_, rfl, .refl _⟩, True.intro⟩ rfl
          · cases hg10
            cases hg9
            cases hv2
            exact Wk.tab ⟨Le.refl _, Le.refl _, Le.refl _, Le.refl _, Le.refl _, Le.refl _, Le.refl _, Le.refl _, True.intro⟩ ⟨⟨_, rfl, .refl _⟩, True.intro⟩ rfl
    refine Ok.cond (d := 82) (b := v2) rfl h (fun hb h => ?_) fun hb h => ?_
    · refine Ok.seq ?_
      refine Ok.region Try.tok ?_
      refine Ok.wk (Wk.tab (L := [(6, (vb false))]) (H' := []) ⟨Le.refl _, True.intro⟩ True.intro rfl) ?_
      refine Ok.ret ?_
      cases h
      exact Fz.v
    · refine Ok.skip ?_
      obtain ⟨v3, hv3, h⟩ := bindS h
      refine Ok.seqw ⟨Cat.tab [(2, (vi p_long)), (4, (.b 4 0)), (7, (vb x1)), (8, (.s (List.map c_api_Lease x2.1))), (9, (vi x2.2.1)), (14, (.s (List.map c_api_Lease v3)))], [(4, .box [(vi p_q.Client), (vi p_q.Ino), (vi p_q.Kind), (vi p_q.Span.From), (vi p_q.Span.To), (vi (0)), (vi p_q.Epoch)])]⟩ ?_ ?_
      · refine Ok.seq ?_
        refine Ok.region Try.tok ?_
        refine Ok.wk (Wk.tab (L := [(2, (vi p_long)), (4, (.b 4 0)), (7, (vb x1)), (8, (.s (List.map c_api_Lease x2.1))), (9, (vi x2.2.1)), (13, (.s (List.map Go.Cat.encI x4.2.2))), (14, (.s (List.map c_api_Lease x5))), (15, (vi (0)))]) (H' := [(4, .box [(vi p_q.Client), (vi p_q.Ino), (vi p_q.Kind), (vi p_q.Span.From), (vi p_q.Span.To), (vi (0)), (vi p_q.Epoch)])]) ⟨Le.refl _, Le.refl _, Le.refl _, Le.refl _, Le.refl _, Le.refl _, Le.refl _, Le.refl _, True.intro⟩ ⟨⟨_, rfl, .refl _⟩, True.intro⟩ rfl) ?_
        refine Ok.block ?_
        refine Ok.loop (fun (s1 : (List api_Lease) × Int) => ⟨Cat.tab [(2, (vi p_long)), (4, (.b 4 0)), (7, (vb x1)), (8, (.s (List.map c_api_Lease x2.1))), (9, (vi x2.2.1)), (13, (.s (List.map Go.Cat.encI x4.2.2))), (14, (.s (List.map c_api_Lease s1.1))), (15, (vi s1.2))], [(4, .box [(vi p_q.Client), (vi p_q.Ino), (vi p_q.Kind), (vi p_q.Span.From), (vi p_q.Span.To), (vi (0)), (vi p_q.Epoch)])]⟩) (law22_LeaseRecalls_B1 x4 p_q) (s0 := (x5, 0)) hv3 (Wk.tab ⟨Le.refl _, Le.refl _, Le.refl _, Le.refl _, Le.refl _, Le.refl _, Le.refl _, Le.refl _, True.intro⟩ ⟨⟨_, rfl, .refl _⟩, True.intro⟩ rfl) ?_
        intro s1 y1 hB1 hy1
        unfold law22_LeaseRecalls_B1 at hB1
        refine Ok.seq ?_
        refine Ok.seq ?_
        refine Ok.region Try.tok ?_
        refine ⟨_, List.length_map _, fun _ => ?_⟩
        refine Ok.wk (Wk.tab (L := [(2, (vi p_long)), (4, (.b 4 0)), (7, (vb x1)), (8, (.s (List.map c_api_Lease x2.1))), (9, (vi x2.2.1)), (13, (.s (List.map Go.Cat.encI x4.2.2))), (14, (.s (List.map c_api_Lease s1.1))), (15, (vi s1.2)), (86, (vb ((decide (s1.2 < (x4.2.2.length : Int))))))]) (H' := [(4, .box [(vi p_q.Client), (vi p_q.Ino), (vi p_q.Kind), (vi p_q.Span.From), (vi p_q.Span.To), (vi (0)), (vi p_q.Epoch)])]) ⟨Le.refl _, Le.refl _, Le.refl _, Le.refl _, Le.refl _, Le.refl _, Le.refl _, Le.refl _, Le.refl _, True.intro⟩ ⟨⟨_, rfl, .refl _⟩, True.intro⟩ rfl) ?_
        refine Ok.cond (d := 86) (b := (decide (s1.2 < (x4.2.2.length : Int)))) rfl hB1 (fun hb hB1 => ?_) fun hb hB1 => ?_
        · refine Ok.skip ?_
          refine Ok.seq ?_
          refine Ok.block ?_
          refine Ok.draw (m := 8) (MD := ⟨[]⟩) (CH := ⟨[]⟩) Try.tok Try.mixed (by kernel_rfl) ?_
          obtain ⟨x9, hx9, hB1⟩ := bindS hB1
          obtain ⟨x10, hx10, hB1⟩ := bindS hB1
          refine ⟨_, rfl, ⟨_, rfl, ⟨_, rfl, ⟨_, ⟨_, idx_nat hx9, _, idx_row hx9, rfl⟩, ⟨_, ⟨_, rfl, rfl⟩, ⟨_, rfl, ⟨_, ⟨_, rfl, rfl⟩, ⟨_, ⟨_, .of_pure (w_lease_Back hx10) (LeL.refl _), rfl⟩, ⟨True.intro, ?_⟩⟩⟩⟩⟩⟩⟩⟩⟩
          refine Ok.wk (Wk.tab (L := [(2, (vi p_long)), (4, (.b 4 0)), (7, (vb x1)), (8, (.s (List.map c_api_Lease x2.1))), (9, (vi x2.2.1)), (13, (.s (List.map Go.Cat.encI x4.2.2))), (14, (.s (List.map c_api_Lease x10))), (15, (vi s1.2))]) (H' := [(4, .box [(vi p_q.Client), (vi p_q.Ino), (vi p_q.Kind), (vi p_q.Span.From), (vi p_q.Span.To), (vi (0)), (vi p_q.Epoch)])]) ⟨Le.refl _, Le.refl _, Le.refl _, Le.refl _, Le.refl _, Le.refl _, Le.refl _, Le.refl _, True.intro⟩ ⟨⟨_, rfl, .refl _⟩, True.intro⟩ rfl) ?_
          refine Ok.region Try.tok ?_
          obtain ⟨hc1, hB1⟩ := chk_some hB1
          refine (Or.inl ⟨hc1, ?_⟩)
          exact ⟨_, (Option.some.inj hB1).symm, Wk.tab ⟨Le.refl _, Le.refl _, Le.refl _, Le.refl _, Le.refl _, Le.refl _, Le.refl _, Le.refl _, True.intro⟩ ⟨⟨_, rfl, .refl _⟩, True.intro⟩ rfl⟩
        · refine Ok.exit ?_
          have hB1 := out_ret hB1 hy1
          cases hB1
          exact Wk.tab ⟨Le.refl _, Le.refl _, Le.refl _, Le.refl _, Le.refl _, Le.refl _, True.intro⟩ ⟨⟨_, rfl, .refl _⟩, True.intro⟩ rfl
      refine Ok.seq ?_
      refine Ok.region Try.tok ?_
      obtain ⟨x11, hx11, h⟩ := bindS h
      refine ⟨_, rfl, ?_⟩
      refine CallOk.call (w_lease_Ask hx11) (LeL.refl _) ?_
      refine Ok.wk (Wk.tab (L := [(2, (vi p_long)), (4, (.b 4 0)), (7, (vb x1)), (8, (.s (List.map c_api_Lease x2.1))), (9, (vi x2.2.1)), (16, (.s (List.map c_api_Lease x11.1))), (17, (vb x11.2.1)), (18, (.s (List.map Go.Cat.encI x11.2.2)))]) (H' := [(4, .box [(vi p_q.Client), (vi p_q.Ino), (vi p_q.Kind), (vi p_q.Span.From), (vi p_q.Span.To), (vi (0)), (vi p_q.Epoch)])]) ⟨Le.refl _, Le.refl _, Le.refl _, Le.refl _, Le.refl _, Le.refl _, Le.refl _, Le.refl _, True.intro⟩ ⟨⟨_, rfl, .refl _⟩, True.intro⟩ rfl) ?_
      refine Ok.seq ?_
      refine Ok.region Try.tok ?_
      refine Ok.wk (Wk.tab (L := [(2, (vi p_long)), (4, (.b 4 0)), (7, (vb x1)), (8, (.s (List.map c_api_Lease x2.1))), (16, (.s (List.map c_api_Lease x11.1))), (17, (vb x11.2.1)), (18, (.s (List.map Go.Cat.encI x11.2.2))), (19, (vi x2.2.1))]) (H' := [(4, .box [(vi p_q.Client), (vi p_q.Ino), (vi p_q.Kind), (vi p_q.Span.From), (vi p_q.Span.To), (vi (0)), (vi p_q.Epoch)])]) ⟨Le.refl _, Le.refl _, Le.refl _, Le.refl _, Le.refl _, Le.refl _, Le.refl _, Le.refl _, True.intro⟩ ⟨⟨_, rfl, .refl _⟩, True.intro⟩ rfl) ?_
      obtain ⟨v4, hv4, h⟩ := bindS h
      refine Ok.seqw ⟨Cat.tab [(2, (vi p_long)), (4, (.b 4 0)), (7, (vb x1)), (8, (.s (List.map c_api_Lease x2.1))), (16, (.s (List.map c_api_Lease x11.1))), (17, (vb x11.2.1)), (18, (.s (List.map Go.Cat.encI x11.2.2))), (19, (vi v4))], [(4, .box [(vi p_q.Client), (vi p_q.Ino), (vi p_q.Kind), (vi p_q.Span.From), (vi p_q.Span.To), (vi (0)), (vi p_q.Epoch)])]⟩ ?_ ?_
      · refine Ok.seq ?_
        refine Ok.region Try.tok ?_
        refine Ok.wk (Wk.tab (L := [(2, (vi p_long)), (4, (.b 4 0)), (7, (vb x1)), (8, (.s (List.map c_api_Lease x2.1))), (16, (.s (List.map c_api_Lease x11.1))), (17, (vb x11.2.1)), (18, (.s (List.map Go.Cat.encI x11.2.2))), (19, (vi x2.2.1)), (20, (vi (0)))]) (H' := [(4, .box [(vi p_q.Client), (vi p_q.Ino), (vi p_q.Kind), (vi p_q.Span.From), (vi p_q.Span.To), (vi (0)), (vi p_q.Epoch)])]) ⟨Le.refl _, Le.refl _, Le.refl _, Le.refl _, Le.refl _, Le.refl _, Le.refl _, Le.refl _, Le.refl _, True.intro⟩ ⟨⟨_, rfl, .refl _⟩, True.intro⟩ rfl) ?_
        refine Ok.block ?_
        refine Ok.loop (fun (s2 : Int × Int) => ⟨Cat.tab [(2, (vi p_long)), (4, (.b 4 0)), (7, (vb x1)), (8, (.s (List.map c_api_Lease x2.1))), (16, (.s (List.map c_api_Lease x11.1))), (17, (vb x11.2.1)), (18, (.s (List.map Go.Cat.encI x11.2.2))), (19, (vi s2.1)), (20, (vi s2.2))], [(4, .box [(vi p_q.Client), (vi p_q.Ino), (vi p_q.Kind), (vi p_q.Span.From), (vi p_q.Span.To), (vi (0)), (vi p_q.Epoch)])]⟩) (law22_LeaseRecalls_B2 x2) (s0 := (x2.2.1, 0)) hv4 (Wk.tab ⟨Le.refl _, Le.refl _, Le.refl _, Le.refl _, Le.refl _, Le.refl _, Le.refl _, Le.refl _, Le.refl _, True.intro⟩ ⟨⟨_, rfl, .refl _⟩, True.intro⟩ rfl) ?_
        intro s2 y2 hB2 hy2
        unfold law22_LeaseRecalls_B2 at hB2
        refine Ok.seq ?_
        refine Ok.seq ?_
        refine Ok.region Try.tok ?_
        refine ⟨_, List.length_map _, fun _ => ?_⟩
        refine Ok.wk (Wk.tab (L := [(2, (vi p_long)), (4, (.b 4 0)), (7, (vb x1)), (8, (.s (List.map c_api_Lease x2.1))), (16, (.s (List.map c_api_Lease x11.1))), (17, (vb x11.2.1)), (18, (.s (List.map Go.Cat.encI x11.2.2))), (19, (vi s2.1)), (20, (vi s2.2)), (110, (vb ((decide (s2.2 < (x2.1.length : Int))))))]) (H' := [(4, .box [(vi p_q.Client), (vi p_q.Ino), (vi p_q.Kind), (vi p_q.Span.From), (vi p_q.Span.To), (vi (0)), (vi p_q.Epoch)])]) ⟨Le.refl _, Le.refl _, Le.refl _, Le.refl _, Le.refl _, Le.refl _, Le.refl _, Le.refl _, Le.refl _, Le.refl _, True.intro⟩ ⟨⟨_, rfl, .refl _⟩, True.intro⟩ rfl) ?_
        refine Ok.cond (d := 110) (b := (decide (s2.2 < (x2.1.length : Int)))) rfl hB2 (fun hb hB2 => ?_) fun hb hB2 => ?_
        · refine Ok.skip ?_
          refine Ok.seq ?_
          refine Ok.block ?_
          refine Ok.region Try.tok ?_
          obtain ⟨x12, hx12, hB2⟩ := bindS hB2
          refine ⟨_, idx_nat hx12, _, idx_row hx12, ⟨_, rfl, ⟨_, rfl, ?_⟩⟩⟩
          refine Ok.wk (Wk.tab (L := [(2, (vi p_long)), (4, (.b 4 0)), (7, (vb x1)), (8, (.s (List.map c_api_Lease x2.1))), (16, (.s (List.map c_api_Lease x11.1))), (17, (vb x11.2.1)), (18, (.s (List.map Go.Cat.encI x11.2.2))), (19, (vi ((max s2.1 x12.Until)))), (20, (vi s2.2))]) (H' := [(4, .box [(vi p_q.Client), (vi p_q.Ino), (vi p_q.Kind), (vi p_q.Span.From), (vi p_q.Span.To), (vi (0)), (vi p_q.Epoch)])]) ⟨Le.refl _, Le.refl _, Le.refl _, Le.refl _, Le.refl _, Le.refl _, Le.refl _, Le.refl _, Le.refl _, True.intro⟩ ⟨⟨_, rfl, .refl _⟩, True.intro⟩ rfl) ?_
          refine Ok.region Try.tok ?_
          obtain ⟨hc2, hB2⟩ := chk_some hB2
          refine (Or.inl ⟨hc2, ?_⟩)
          exact ⟨_, (Option.some.inj hB2).symm, Wk.tab ⟨Le.refl _, Le.refl _, Le.refl _, Le.refl _, Le.refl _, Le.refl _, Le.refl _, Le.refl _, Le.refl _, True.intro⟩ ⟨⟨_, rfl, .refl _⟩, True.intro⟩ rfl⟩
        · refine Ok.exit ?_
          have hB2 := out_ret hB2 hy2
          cases hB2
          exact Wk.tab ⟨Le.refl _, Le.refl _, Le.refl _, Le.refl _, Le.refl _, Le.refl _, Le.refl _, Le.refl _, True.intro⟩ ⟨⟨_, rfl, .refl _⟩, True.intro⟩ rfl
      refine Ok.seq ?_
      refine Ok.region Try.tok ?_
      obtain ⟨x13, hx13, h⟩ := bindS h
      refine ⟨_, rfl, ?_⟩
      refine CallOk.call (w_lease_Ask hx13) (LeL.refl _) ?_
      refine Ok.wk (Wk.tab (L := [(7, (vb x1)), (16, (.s (List.map c_api_Lease x11.1))), (17, (vb x11.2.1)), (18, (.s (List.map Go.Cat.encI x11.2.2))), (21, (.s (List.map c_api_Lease x13.1))), (22, (vb x13.2.1))]) (H' := []) ⟨Le.refl _, Le.refl _, Le.refl _, Le.refl _, Le.refl _, Le.refl _, True.intro⟩ True.intro rfl) ?_
      obtain ⟨v5, hv5, h⟩ := bindS h
      refine Ok.seqw ⟨Cat.tab [(6, (vb v5))], []⟩ ?_ ?_
      · refine Ok.region Try.tok ?_
        obtain ⟨c7, hg11, hv5⟩ := bindS hv5
        refine Br.ite hg11 (fun hb hg11 => ?_) fun hb hg11 => ?_
        · cases hg11
          obtain ⟨c8, hg12, hv5⟩ := bindS hv5
          refine Br.ite hg12 (fun hb hg12 => ?_) fun hb hg12 => ?_
          · refine ⟨_, List.length_map _, fun _ => ?_⟩
            cases hg12
            obtain ⟨c9, hg13, hv5⟩ := bindS hv5
            refine Br.ite hg13 (fun hb hg13 => ?_) fun hb hg13 => ?_
            · obtain ⟨x14, hx14, hg13⟩ := bindS hg13
              refine CallOk.call (w_lease_Right hx14) (LeL.refl _) ?_
              cases hg13
              obtain ⟨c10, hg14, hv5⟩ := bindS hv5
              refine Br.ite hg14 (fun hb hg14 => ?_) fun hb hg14 => ?_
              · cases hg14
                obtain ⟨c11, hg15, hv5⟩ := bindS hv5
                refine Br.ite hg15 (fun hb hg15 => ?_) fun hb hg15 => ?_
                · refine ⟨_, List.length_map _, fun _ => ?_⟩
                  cases hg15
                  cases hv5
                  exact Wk.tab ⟨Le.refl _, True.intro⟩ True.intro rfl
                · cases hg15
                  cases hv5
                  exact Wk.tab ⟨Le.refl _, True.intro⟩ True.intro rfl
              · cases hg14
                obtain ⟨c11, hg16, hv5⟩ := bindS hv5
                replace hg16 := iteF hg16
                cases hg16
                cases hv5
                exact Wk.tab ⟨Le.refl _, True.intro⟩ True.intro rfl
            · cases hg13
              obtain ⟨c10, hg17, hv5⟩ := bindS hv5
              replace hg17 := iteF hg17
              cases hg17
              obtain ⟨c11, hg18, hv5⟩ := bindS hv5
              replace hg18 := iteF hg18
              cases hg18
              cases hv5
              exact Wk.tab ⟨Le.refl _, True.intro⟩ True.intro rfl
          · cases hg12
            obtain ⟨c9, hg19, hv5⟩ := bindS hv5
            replace hg19 := iteF hg19
            cases hg19
            obtain ⟨c10, hg20, hv5⟩ := bindS hv5
            replace hg20 := iteF hg20
            cases hg20
            obtain ⟨c11, hg21, hv5⟩ := bindS hv5
            replace hg21 := iteF hg21
            cases hg21
            cases hv5
            exact Wk.tab ⟨Le.refl _, True.intro⟩ True.intro rfl
        · cases hg11
          obtain ⟨c8, hg22, hv5⟩ := bindS hv5
          replace hg22 := iteF hg22
          cases hg22
          obtain ⟨c9, hg23, hv5⟩ := bindS hv5
          replace hg23 := iteF hg23
          cases hg23
          obtain ⟨c10, hg24, hv5⟩ := bindS hv5
          replace hg24 := iteF hg24
          cases hg24
          obtain ⟨c11, hg25, hv5⟩ := bindS hv5
          replace hg25 := iteF hg25
          cases hg25
          cases hv5
          exact Wk.tab ⟨Le.refl _, True.intro⟩ True.intro rfl
      refine Ok.ret ?_
      cases h
      exact Fz.v

end Go.Proofs
