/- The walks of this seat beside the plain programs, part 2. No condition. -/
import Derived.Test.YtopkpflbhhhdfaaXSweepClockEn
import Derived.Test.YtopkpflbhhhdfaaXSweepClockWk0
import Derived.Test.YtopkpflbhhhdfaaXSweepClockWk1
namespace Go.Proofs
set_option linter.all false
open Go Go.Cat
variable [M : Mono]
set_option maxRecDepth 100000

theorem w_clock_span_most {p_r : Int} {r : Int} (h : clock_span_most p_r = some r) : Pure Try.prog 39 [(vi p_r)] (vi r) := by
  refine pure_of_ok (n := 8) (c := (Try.f39.body.getD .skip)) Try.tok Try.func39 (by kernel_rfl) rfl rfl (Nat.le_of_ble_eq_true rfl) ?_
  unfold clock_span_most at h
  refine Ok.wk (Wk.tab (L := [(0, (vi p_r))]) (H' := []) ⟨Le.refl _, True.intro⟩ True.intro rfl) ?_
  refine Ok.seq ?_
  refine Ok.region Try.tok ?_
  refine Ok.wk (Wk.tab (L := [(0, (vi p_r))]) (H' := []) ⟨Le.refl _, True.intro⟩ True.intro rfl) ?_
  refine Ok.seq ?_
  refine Ok.region Try.tok ?_
  obtain ⟨hc1, h⟩ := chk_some h
  obtain ⟨hc2, h⟩ := chk_some h
  obtain ⟨hc3, h⟩ := chk_some h
  refine (Or.inl ⟨hc1, (Or.inl ⟨hc2, (Or.inl ⟨hc3, ⟨(by decide), _, rfl, ?_⟩⟩)⟩)⟩)
  refine Ok.wk (Wk.tab (L := [(2, (vi ((quoK .i64 ((((p_r * 1001) + 1000) - 1)) (1000)))))]) (H' := []) ⟨Le.refl _, True.intro⟩ True.intro rfl) ?_
  refine Ok.ret ?_
  cases h
  exact Fz.v

theorem w_clock_Wait {p_n : Int} {r : Int} (h : clock_Wait p_n = some r) : Pure Try.prog 19 [(vi p_n)] (vi r) := by
  refine pure_of_ok (n := 14) (c := (Try.f19.body.getD .skip)) Try.tok Try.func19 (by kernel_rfl) rfl rfl (Nat.le_of_ble_eq_true rfl) ?_
  unfold clock_Wait at h
  refine Ok.wk (Wk.tab (L := [(0, (vi p_n))]) (H' := []) ⟨Le.refl _, True.intro⟩ True.intro rfl) ?_
  refine Ok.seq ?_
  refine Ok.region Try.tok ?_
  refine Ok.wk (Wk.tab (L := [(1, (.b 1 0))]) (H' := [(1, .box [(vi p_n)])]) ⟨Le.refl _, True.intro⟩ ⟨⟨_, rfl, .refl _⟩, True.intro⟩ rfl) ?_
  refine Ok.seq ?_
  refine Ok.region Try.tok ?_
  obtain ⟨x1, hx1, h⟩ := bindS h
  refine ⟨_, rfl, ?_⟩
  refine CallOk.call (w_clock_within hx1) (LeL.refl _) ?_
  refine ⟨_, rfl, ?_⟩
  refine Ok.wk (Wk.tab (L := [(1, (.b 1 0))]) (H' := [(1, .box [(vi x1)])]) ⟨Le.refl _, True.intro⟩ ⟨⟨_, rfl, .refl _⟩, True.intro⟩ rfl) ?_
  refine Ok.seq ?_
  refine Ok.region Try.tok ?_
  obtain ⟨x2, hx2, h⟩ := bindS h
  refine CallOk.borrow (w_clock_first_clock_span__clock_Wait_1 hx2) (.cons Fz.v (.cons Fz.v (.cons (Fz.c .nil (.cons (Fz.b rfl rfl) .nil)) (.nil)))) rfl ?_
  refine Ok.wk (Wk.tab (L := [(3, (vi x2))]) (H' := []) ⟨Le.refl _, True.intro⟩ True.intro rfl) ?_
  refine Ok.seq ?_
  refine Ok.seq ?_
  refine Ok.region Try.tok ?_
  refine Ok.wk (Wk.tab (L := [(3, (vi x2)), (9, (vb ((x2 == 0))))]) (H' := []) ⟨Le.refl _, Le.refl _, True.intro⟩ True.intro rfl) ?_
  refine Ok.cond (d := 9) (b := (x2 == 0)) rfl h (fun hb h => ?_) fun hb h => ?_
  · refine Ok.seq ?_
    refine Ok.region Try.tok ?_
    refine Ok.wk (Wk.tab (L := [(2, (vi (0)))]) (H' := []) ⟨Le.refl _, True.intro⟩ True.intro rfl) ?_
    refine Ok.ret ?_
    cases h
    exact Fz.v
  · refine Ok.skip ?_
    refine Ok.seq ?_
    refine Ok.region Try.tok ?_
    obtain ⟨hc1, h⟩ := chk_some h
    obtain ⟨x3, hx3, h⟩ := bindS h
    refine (Or.inl ⟨hc1, ?_⟩)
    refine CallOk.call (w_clock_span_most hx3) (LeL.refl _) ?_
    obtain ⟨hc2, h⟩ := chk_some h
    refine (Or.inl ⟨hc2, ?_⟩)
    refine Ok.wk (Wk.tab (L := [(2, (vi ((x3 + 1))))]) (H' := []) ⟨Le.refl _, True.intro⟩ True.intro rfl) ?_
    refine Ok.ret ?_
    cases h
    exact Fz.v

theorem w_clock_Least {p_real : Int} {r : Int} (h : clock_Least p_real = some r) : Pure Try.prog 20 [(vi p_real)] (vi r) := by
  refine pure_of_ok (n := 9) (c := (Try.f20.body.getD .skip)) Try.tok Try.func20 (by kernel_rfl) rfl rfl (Nat.le_of_ble_eq_true rfl) ?_
  unfold clock_Least at h
  refine Ok.wk (Wk.tab (L := [(0, (vi p_real))]) (H' := []) ⟨Le.refl _, True.intro⟩ True.intro rfl) ?_
  refine Ok.seq ?_
  refine Ok.region Try.tok ?_
  refine Ok.wk (Wk.tab (L := [(0, (vi p_real))]) (H' := []) ⟨Le.refl _, True.intro⟩ True.intro rfl) ?_
  refine Ok.seq ?_
  refine Ok.region Try.tok ?_
  obtain ⟨x1, hx1, h⟩ := bindS h
  refine CallOk.call (w_clock_within hx1) (LeL.refl _) ?_
  refine Ok.wk (Wk.tab (L := [(3, (.c (.func 38) [(vi x1)] []))]) (H' := []) ⟨Le.refl _, True.intro⟩ True.intro rfl) ?_
  refine Ok.seq ?_
  refine Ok.region Try.tok ?_
  obtain ⟨x2, hx2, h⟩ := bindS h
  refine CallOk.call (w_clock_span_least hx2) (LeL.refl _) ?_
  refine Ok.wk (Wk.tab (L := [(2, (vi x2))]) (H' := []) ⟨Le.refl _, True.intro⟩ True.intro rfl) ?_
  refine Ok.ret ?_
  cases h
  exact Fz.v

theorem w_clock_Most {p_real : Int} {r : Int} (h : clock_Most p_real = some r) : Pure Try.prog 21 [(vi p_real)] (vi r) := by
  refine pure_of_ok (n := 9) (c := (Try.f21.body.getD .skip)) Try.tok Try.func21 (by kernel_rfl) rfl rfl (Nat.le_of_ble_eq_true rfl) ?_
  unfold clock_Most at h
  refine Ok.wk (Wk.tab (L := [(0, (vi p_real))]) (H' := []) ⟨Le.refl _, True.intro⟩ True.intro rfl) ?_
  refine Ok.seq ?_
  refine Ok.region Try.tok ?_
  refine Ok.wk (Wk.tab (L := [(0, (vi p_real))]) (H' := []) ⟨Le.refl _, True.intro⟩ True.intro rfl) ?_
  refine Ok.seq ?_
  refine Ok.region Try.tok ?_
  obtain ⟨x1, hx1, h⟩ := bindS h
  refine CallOk.call (w_clock_within hx1) (LeL.refl _) ?_
  refine Ok.wk (Wk.tab (L := [(3, (.c (.func 39) [(vi x1)] []))]) (H' := []) ⟨Le.refl _, True.intro⟩ True.intro rfl) ?_
  refine Ok.seq ?_
  refine Ok.region Try.tok ?_
  obtain ⟨x2, hx2, h⟩ := bindS h
  refine CallOk.call (w_clock_span_most hx2) (LeL.refl _) ?_
  refine Ok.wk (Wk.tab (L := [(2, (vi x2))]) (H' := []) ⟨Le.refl _, True.intro⟩ True.intro rfl) ?_
  refine Ok.ret ?_
  cases h
  exact Fz.v

theorem w_law29_SweepClock [Off] {p_room : api_Room} {p_from : Int} {p_many : UInt8} {p_real : Int} {p_drift : UInt8} {r : Bool} (h : law29_SweepClock p_room p_from p_many p_real p_drift = some r) : Pure Try.prog 6 [(.a [(vi p_room.Id), (vi p_room.Ino), (vi p_room.Client)]), (.v (.int .u16 p_from)), (vu p_many), (.v (.int .u16 p_real)), (vu p_drift)] (vb r) := by
  refine pure_of_ok (n := 94) (c := (Try.f6.body.getD .skip)) Try.tok Try.func6 (by kernel_rfl) rfl rfl (Nat.le_of_ble_eq_true rfl) ?_
  unfold law29_SweepClock at h
  refine Ok.wk (Wk.tab (L := [(0, (.a [(vi p_room.Id), (vi p_room.Ino), (vi p_room.Client)])), (1, (.v (.int .u16 p_from))), (2, (vu p_many)), (3, (.v (.int .u16 p_real))), (4, (vu p_drift))]) (H' := []) ⟨Le.refl _, Le.refl _, Le.refl _, Le.refl _, Le.refl _, True.intro⟩ True.intro rfl) ?_
  refine Ok.seq ?_
  refine Ok.region Try.tok ?_
  refine Ok.wk (Wk.tab (L := [(1, (.v (.int .u16 p_from))), (2, (vu p_many)), (3, (.v (.int .u16 p_real))), (4, (vu p_drift)), (5, (.b 5 0))]) (H' := [(5, .box [(vi p_room.Id), (vi p_room.Ino), (vi p_room.Client)])]) ⟨Le.refl _, Le.refl _, Le.refl _, Le.refl _, Le.refl _, True.intro⟩ ⟨⟨_, rfl, .refl _⟩, True.intro⟩ rfl) ?_
  refine Ok.seq ?_
  refine Ok.region Try.tok ?_
  obtain ⟨x1, hx1, h⟩ := bindS h
  refine CallOk.call (w_law29_head hx1) (LeL.refl _) ?_
  refine Ok.wk (Wk.tab (L := [(1, (.v (.int .u16 p_from))), (2, (vu p_many)), (3, (.v (.int .u16 p_real))), (4, (vu p_drift)), (5, (.b 5 0)), (11, (vb x1))]) (H' := [(5, .box [(vi p_room.Id), (vi p_room.Ino), (vi p_room.Client)])]) ⟨Le.refl _, Le.refl _, Le.refl _, Le.refl _, Le.refl _, Le.refl _, True.intro⟩ ⟨⟨_, rfl, .refl _⟩, True.intro⟩ rfl) ?_
  refine Ok.seq ?_
  refine Ok.region Try.tok ?_
  obtain ⟨hc1, h⟩ := chk_some h
  refine ⟨_, wrap_of_u8 (k := .i64) (by decide) _, ⟨(by decide), _, rfl, (Or.inl ⟨hc1, ?_⟩)⟩⟩
  refine Ok.wk (Wk.tab (L := [(1, (.v (.int .u16 p_from))), (3, (.v (.int .u16 p_real))), (4, (vu p_drift)), (5, (.b 5 0)), (11, (vb x1)), (12, (vi ((1 + (Int.tmod ((p_many.toNat : Int)) (64))))))]) (H' := [(5, .box [(vi p_room.Id), (vi p_room.Ino), (vi p_room.Client)])]) ⟨Le.refl _, Le.refl _, Le.refl _, Le.refl _, Le.refl _, Le.refl _, True.intro⟩ ⟨⟨_, rfl, .refl _⟩, True.intro⟩ rfl) ?_
  refine Ok.seq ?_
  refine Ok.region Try.tok ?_
  refine ⟨_, rfl, ⟨(by decide), _, rfl, ?_⟩⟩
  refine Ok.wk (Wk.tab (L := [(1, (.v (.int .u16 p_from))), (4, (vu p_drift)), (5, (.b 5 0)), (11, (vb x1)), (12, (vi ((1 + (Int.tmod ((p_many.toNat : Int)) (64)))))), (13, (vi ((Int.tmod ((IntKind.i64.wrap p_real)) (200)))))]) (H' := [(5, .box [(vi p_room.Id), (vi p_room.Ino), (vi p_room.Client)])]) ⟨Le.refl _, Le.refl _, Le.refl _, Le.refl _, Le.refl _, Le.refl _, True.intro⟩ ⟨⟨_, rfl, .refl _⟩, True.intro⟩ rfl) ?_
  refine Ok.seq ?_
  refine Ok.draw (m := 11) (MD := ⟨[]⟩) (CH := ⟨[]⟩) Try.tok Try.mixed (by kernel_rfl) ?_
  obtain ⟨x2, hx2, h⟩ := bindS h
  obtain ⟨hc2, h⟩ := chk_some h
  refine ⟨_, rfl, ⟨_, ⟨_, rfl, rfl⟩, ⟨_, rfl, ⟨_, ⟨_, rfl, rfl⟩, ⟨_, rfl, ⟨_, ⟨_, rfl, rfl⟩, ⟨_, rfl, ⟨_, ⟨_, .of_pure (w_clock_Wait hx2) (LeL.refl _), rfl⟩, ⟨_, (Or.inl ⟨hc2, rfl⟩), ⟨_, rfl, ⟨True.intro, ⟨_, rfl, ?_⟩⟩⟩⟩⟩⟩⟩⟩⟩⟩⟩⟩
  refine Ok.wk (Wk.tab (L := [(1, (.v (.int .u16 p_from))), (4, (vu p_drift)), (5, (.b 5 0)), (11, (vb x1)), (12, (vi ((1 + (Int.tmod ((p_many.toNat : Int)) (64)))))), (13, (vi ((Int.tmod ((IntKind.i64.wrap p_real)) (200))))), (14, (.b 14 0))]) (H' := [(5, .box [(vi p_room.Id), (vi p_room.Ino), (vi p_room.Client)]), (14, .box [(vi p_room.Client), (vi p_room.Ino), (vi (2)), (vi (0)), (vi (0)), (vi (((IntKind.i64.wrap p_from) + x2))), (vi (0))])]) ⟨Le.refl _, Le.refl _, Le.refl _, Le.refl _, Le.refl _, Le.refl _, Le.refl _, True.intro⟩ ⟨⟨_, rfl, .refl _⟩, ⟨_, rfl, .refl _⟩, True.intro⟩ rfl) ?_
  refine Ok.seq ?_
  refine Ok.region Try.tok ?_
  obtain ⟨x3, hx3, h⟩ := bindS h
  refine CallOk.call (w_clock_Least hx3) (LeL.refl _) ?_
  refine Ok.wk (Wk.tab (L := [(1, (.v (.int .u16 p_from))), (4, (vu p_drift)), (5, (.b 5 0)), (11, (vb x1)), (12, (vi ((1 + (Int.tmod ((p_many.toNat : Int)) (64)))))), (13, (vi ((Int.tmod ((IntKind.i64.wrap p_real)) (200))))), (14, (.b 14 0)), (15, (vi x3))]) (H' := [(5, .box [(vi p_room.Id), (vi p_room.Ino), (vi p_room.Client)]), (14, .box [(vi p_room.Client), (vi p_room.Ino), (vi (2)), (vi (0)), (vi (0)), (vi (((IntKind.i64.wrap p_from) + x2))), (vi (0))])]) ⟨Le.refl _, Le.refl _, Le.refl _, Le.refl _, Le.refl _, Le.refl _, Le.refl _, Le.refl _, True.intro⟩ ⟨⟨_, rfl, .refl _⟩, ⟨_, rfl, .refl _⟩, True.intro⟩ rfl) ?_
  refine Ok.seq ?_
  refine Ok.region Try.tok ?_
  obtain ⟨x4, hx4, h⟩ := bindS h
  refine CallOk.call (w_clock_Most hx4) (LeL.refl _) ?_
  refine Ok.wk (Wk.tab (L := [(1, (.v (.int .u16 p_from))), (4, (vu p_drift)), (5, (.b 5 0)), (11, (vb x1)), (12, (vi ((1 + (Int.tmod ((p_many.toNat : Int)) (64)))))), (14, (.b 14 0)), (15, (vi x3)), (16, (vi x4))]) (H' := [(5, .box [(vi p_room.Id), (vi p_room.Ino), (vi p_room.Client)]), (14, .box [(vi p_room.Client), (vi p_room.Ino), (vi (2)), (vi (0)), (vi (0)), (vi (((IntKind.i64.wrap p_from) + x2))), (vi (0))])]) ⟨Le.refl _, Le.refl _, Le.refl _, Le.refl _, Le.refl _, Le.refl _, Le.refl _, Le.refl _, True.intro⟩ ⟨⟨_, rfl, .refl _⟩, ⟨_, rfl, .refl _⟩, True.intro⟩ rfl) ?_
  refine Ok.seq ?_
  obtain ⟨v1, hv1, h⟩ := bindS h
  refine Ok.seqw ⟨Cat.tab [(1, (.v (.int .u16 p_from))), (4, (vu p_drift)), (5, (.b 5 0)), (11, (vb x1)), (12, (vi ((1 + (Int.tmod ((p_many.toNat : Int)) (64)))))), (14, (.b 14 0)), (15, (vi x3)), (16, (vi x4)), (51, (vb v1))], [(5, .box [(vi p_room.Id), (vi p_room.Ino), (vi p_room.Client)]), (14, .box [(vi p_room.Client), (vi p_room.Ino), (vi (2)), (vi (0)), (vi (0)), (vi (((IntKind.i64.wrap p_from) + x2))), (vi (0))])]⟩ ?_ ?_
  · refine Ok.region Try.tok ?_
    obtain ⟨c1, hg1, hv1⟩ := bindS hv1
    refine Br.itf hg1 (fun hb hg1 => ?_) fun hb hg1 => ?_
    · cases hg1
      obtain ⟨c2, hg2, hv1⟩ := bindS hv1
      replace hg2 := iteT hg2
      cases hg2
      cases hv1
      exact Wk.tab ⟨Le.refl _, Le.refl _, Le.refl _, Le.refl _, Le.refl _, Le.refl _, Le.refl _, Le.refl _, Le.refl _, True.intro⟩ ⟨⟨_, rfl, .refl _⟩, ⟨_, rfl, .refl _⟩, True.intro⟩ rfl
    · cases hg1
      obtain ⟨c2, hg3, hv1⟩ := bindS hv1
      refine Br.itf hg3 (fun hb hg3 => ?_) fun hb hg3 => ?_
      · cases hg3
        cases hv1
        exact Wk.tab ⟨Le.refl _, Le.refl _, Le.refl _, Le.refl _, Le.refl _, Le.refl _, Le.refl _, Le.refl _, Le.refl _, True.intro⟩ ⟨⟨_, rfl, .refl _⟩, ⟨_, rfl, .refl _⟩, True.intro⟩ rfl
      · cases hg3
        cases hv1
        exact Wk.tab ⟨Le.refl _, Le.refl _, Le.refl _, Le.refl _, Le.refl _, Le.refl _, Le.refl _, Le.refl _, Le.refl _, True.intro⟩ ⟨⟨_, rfl, .refl _⟩, ⟨_, rfl, .refl _⟩, True.intro⟩ rfl
  refine Ok.cond (d := 51) (b := v1) rfl h (fun hb h => ?_) fun hb h => ?_
  · refine Ok.seq ?_
    refine Ok.region Try.tok ?_
    refine Ok.wk (Wk.tab (L := [(10, (vb false))]) (H' := []) ⟨Le.refl _, True.intro⟩ True.intro rfl) ?_
    refine Ok.ret ?_
    cases h
    exact Fz.v
  · refine Ok.skip ?_
    refine Ok.seq ?_
    refine Ok.region Try.tok ?_
    obtain ⟨hc3, h⟩ := chk_some h
    obtain ⟨hc4, h⟩ := chk_some h
    obtain ⟨hc5, h⟩ := chk_some h
    obtain ⟨hc6, h⟩ := chk_some h
    refine ⟨_, wrap_of_u8 (k := .i64) (by decide) _, (Or.inl ⟨hc3, (Or.inl ⟨hc4, ⟨hc5, _, rfl, (Or.inl ⟨hc6, ?_⟩)⟩⟩)⟩)⟩
    refine Ok.wk (Wk.tab (L := [(1, (.v (.int .u16 p_from))), (5, (.b 5 0)), (11, (vb x1)), (12, (vi ((1 + (Int.tmod ((p_many.toNat : Int)) (64)))))), (14, (.b 14 0)), (15, (vi x3)), (17, (vi ((x3 + (Int.tmod ((p_drift.toNat : Int)) (((x4 - x3) + 1)))))))]) (H' := [(5, .box [(vi p_room.Id), (vi p_room.Ino), (vi p_room.Client)]), (14, .box [(vi p_room.Client), (vi p_room.Ino), (vi (2)), (vi (0)), (vi (0)), (vi (((IntKind.i64.wrap p_from) + x2))), (vi (0))])]) ⟨Le.refl _, Le.refl _, Le.refl _, Le.refl _, Le.refl _, Le.refl _, Le.refl _, True.intro⟩ ⟨⟨_, rfl, .refl _⟩, ⟨_, rfl, .refl _⟩, True.intro⟩ rfl) ?_
    refine Ok.seq ?_
    refine Ok.region Try.tok ?_
    obtain ⟨hc7, h⟩ := chk_some h
    obtain ⟨x5, hx5, h⟩ := bindS h
    refine ⟨_, rfl, Or.inl ⟨_, rfl, Or.inl ⟨_, rfl, (Or.inl ⟨hc7, ?_⟩)⟩⟩⟩
    refine CallOk.call (w_sweep_Keeps hx5) (.cons (Le.nil) (.cons (Le.refl _) (.cons (Le.refl _) (.cons (Le.refl _) (.nil))))) ?_
    refine Ok.wk (Wk.tab (L := [(5, (.b 5 0)), (11, (vb x1)), (12, (vi ((1 + (Int.tmod ((p_many.toNat : Int)) (64)))))), (15, (vi x3)), (18, (.s (List.map Go.Cat.encI x5)))]) (H' := [(5, .box [(vi p_room.Id), (vi p_room.Ino), (vi p_room.Client)])]) ⟨Le.refl _, Le.refl _, Le.refl _, Le.refl _, Le.refl _, True.intro⟩ ⟨⟨_, rfl, .refl _⟩, True.intro⟩ rfl) ?_
    refine Ok.seq ?_
    refine Ok.seq ?_
    refine Ok.region Try.tok ?_
    refine Ok.wk (Wk.tab (L := [(5, (.b 5 0)), (11, (vb x1)), (18, (.s (List.map Go.Cat.encI x5))), (72, (vb ((decide (x3 ≥ (1 + (Int.tmod ((p_many.toNat : Int)) (64))))))))]) (H' := [(5, .box [(vi p_room.Id), (vi p_room.Ino), (vi p_room.Client)])]) ⟨Le.refl _, Le.refl _, Le.refl _, Le.refl _, True.intro⟩ ⟨⟨_, rfl, .refl _⟩, True.intro⟩ rfl) ?_
    refine Ok.cond (d := 72) (b := (decide (x3 ≥ (1 + (Int.tmod ((p_many.toNat : Int)) (64)))))) rfl h (fun hb h => ?_) fun hb h => ?_
    · obtain ⟨v2, hv2, h⟩ := bindS h
      refine Ok.seqw ⟨Cat.tab [(10, (vb v2))], []⟩ ?_ ?_
      · refine Ok.region Try.tok ?_
        obtain ⟨c4, hg4, hv2⟩ := bindS hv2
        refine Br.ite hg4 (fun hb hg4 => ?_) fun hb hg4 => ?_
        · refine ⟨_, List.length_map _, fun _ => ?_⟩
          obtain ⟨c3, hg5, hg4⟩ := bindS hg4
          refine Br.itf hg5 (fun hb hg5 => ?_) fun hb hg5 => ?_
          · cases hg5
            cases hg4
            cases hv2
            exact Wk.tab ⟨Le.refl _, True.intro⟩ True.intro rfl
          · obtain ⟨x6, hx6, hg5⟩ := bindS hg5
            refine ⟨_, rfl, Or.inl ?_⟩
            refine CallOk.call (w_ref02_Ints hx6) (LeL.refl _) ?_
            cases hg5
            cases hg4
            cases hv2
            exact Wk.tab ⟨Le.refl _, True.intro⟩ True.intro rfl
        · cases hg4
          cases hv2
          exact Wk.tab ⟨Le.refl _, True.intro⟩ True.intro rfl
      refine Ok.ret ?_
      cases h
      exact Fz.v
    · refine Ok.skip ?_
      obtain ⟨v3, hv3, h⟩ := bindS h
      refine Ok.seqw ⟨Cat.tab [(10, (vb v3))], []⟩ ?_ ?_
      · refine Ok.region Try.tok ?_
        obtain ⟨c5, hg6, hv3⟩ := bindS hv3
        refine Br.ite hg6 (fun hb hg6 => ?_) fun hb hg6 => ?_
        · obtain ⟨x7, hx7, hg6⟩ := bindS hg6
          refine ⟨_, rfl, Or.inl ?_⟩
          refine CallOk.call (w_ref02_Ints hx7) (LeL.refl _) ?_
          cases hg6
          cases hv3
          exact Wk.tab ⟨Le.refl _, True.intro⟩ True.intro rfl
        · cases hg6
          cases hv3
          exact Wk.tab ⟨Le.refl _, True.intro⟩ True.intro rfl
      refine Ok.ret ?_
      cases h
      exact Fz.v

end Go.Proofs
