/- The walks of this seat beside the plain programs, part 1. No condition. -/
import Derived.Test.YtopkpflbhhhdfaaGreatXSweepKeepsEn
import Derived.Test.YtopkpflbhhhdfaaGreatXSweepKeepsWk0
namespace Go.Proofs
set_option linter.all false
open Go Go.Cat
variable [M : Mono]
set_option maxRecDepth 100000

theorem wg_sweep_kept__sweep_open_1 {p_named : List api_Named} {p_rooms : List api_Room} {p_b0 : List api_Lease} {p_b1 : Int} {r : (List (Int × Bool))} (h : sweep_kept__sweep_open_1 p_named p_rooms p_b0 p_b1 = some r) : CallOk Tryz.prog 31 [(.s (List.map c_api_Named p_named)), (.s (List.map c_api_Room p_rooms)), (.c (.func 48) [] [(.b 1000 0), (.b 1001 0)])] ⟨noSlots, [(1000, .box [(.s (List.map c_api_Lease p_b0))]), (1001, .box [(vi p_b1)])]⟩ fun x s => x = (.m 12) ∧ s.H = [(12, .mp false (List.map (fun p => (p.1, cB p.2)) r)), (1000, .box [(.s (List.map c_api_Lease p_b0))]), (1001, .box [(vi p_b1)])] := by
  refine pgen_of_ok (n := 37) (c := (Tryz.f31.body.getD .skip)) Tryz.tok Tryz.func31 (by kernel_rfl) rfl rfl (Nat.le_of_ble_eq_true rfl) ?_
  unfold sweep_kept__sweep_open_1 at h
  refine Ok.wk (Wk.tab (L := [(0, (.s (List.map c_api_Named p_named))), (1, (.s (List.map c_api_Room p_rooms))), (2, (.c (.func 48) [] [(.b 1000 0), (.b 1001 0)]))]) (H' := [(1000, .box [(.s (List.map c_api_Lease p_b0))]), (1001, .box [(vi p_b1)])]) ⟨Le.refl _, Le.refl _, Le.refl _, True.intro⟩ ⟨⟨_, rfl, .refl _⟩, ⟨_, rfl, .refl _⟩, True.intro⟩ rfl) ?_
  refine Ok.seq ?_
  refine Ok.region Tryz.tok ?_
  refine Ok.wk (Wk.tab (L := [(0, (.s (List.map c_api_Named p_named))), (1, (.s (List.map c_api_Room p_rooms))), (2, (.c (.func 48) [] [(.b 1000 0), (.b 1001 0)]))]) (H' := [(1000, .box [(.s (List.map c_api_Lease p_b0))]), (1001, .box [(vi p_b1)])]) ⟨Le.refl _, Le.refl _, Le.refl _, True.intro⟩ ⟨⟨_, rfl, .refl _⟩, ⟨_, rfl, .refl _⟩, True.intro⟩ rfl) ?_
  refine Ok.seq ?_
  refine Ok.region Tryz.tok ?_
  refine Ok.wk (Wk.tab (L := [(0, (.s (List.map c_api_Named p_named))), (1, (.s (List.map c_api_Room p_rooms))), (2, (.c (.func 48) [] [(.b 1000 0), (.b 1001 0)])), (7, (.m 12))]) (H' := [(1000, .box [(.s (List.map c_api_Lease p_b0))]), (1001, .box [(vi p_b1)]), (12, .mp false (List.map (fun p => (p.1, cB p.2)) (([] : List (Int × Bool)))))]) ⟨Le.refl _, Le.refl _, Le.refl _, Le.refl _, True.intro⟩ ⟨⟨_, rfl, .refl _⟩, ⟨_, rfl, .refl _⟩, ⟨_, rfl, .refl _⟩, True.intro⟩ rfl) ?_
  obtain ⟨v1, hv1, h⟩ := bindS h
  refine Ok.seqw ⟨Cat.tab [(1, (.s (List.map c_api_Room p_rooms))), (2, (.c (.func 48) [] [(.b 1000 0), (.b 1001 0)])), (7, (.m 12))], [(1000, .box [(.s (List.map c_api_Lease p_b0))]), (1001, .box [(vi p_b1)]), (12, .mp false (List.map (fun p => (p.1, cB p.2)) v1))]⟩ ?_ ?_
  · refine Ok.seq ?_
    refine Ok.region Tryz.tok ?_
    refine ⟨_, List.length_map _, fun _ => ?_⟩
    refine Ok.wk (Wk.tab (L := [(1, (.s (List.map c_api_Room p_rooms))), (2, (.c (.func 48) [] [(.b 1000 0), (.b 1001 0)])), (7, (.m 12)), (13, (.s (List.map c_api_Named p_named))), (14, (vi ((p_named.length : Int)))), (15, (vi (0)))]) (H' := [(1000, .box [(.s (List.map c_api_Lease p_b0))]), (1001, .box [(vi p_b1)]), (12, .mp false (List.map (fun p => (p.1, cB p.2)) (([] : List (Int × Bool)))))]) ⟨Le.refl _, Le.refl _, Le.refl _, Le.refl _, Le.refl _, Le.refl _, True.intro⟩ ⟨⟨_, rfl, .refl _⟩, ⟨_, rfl, .refl _⟩, ⟨_, rfl, .refl _⟩, True.intro⟩ rfl) ?_
    refine Ok.block ?_
    refine Ok.loop (fun (s1 : Int × (List (Int × Bool))) => ⟨Cat.tab [(1, (.s (List.map c_api_Room p_rooms))), (2, (.c (.func 48) [] [(.b 1000 0), (.b 1001 0)])), (7, (.m 12)), (13, (.s (List.map c_api_Named p_named))), (14, (vi ((p_named.length : Int)))), (15, (vi s1.1))], [(1000, .box [(.s (List.map c_api_Lease p_b0))]), (1001, .box [(vi p_b1)]), (12, .mp false (List.map (fun p => (p.1, cB p.2)) s1.2))]⟩) (sweep_kept__sweep_open_1_B1 p_named) (s0 := (0, ([] : List (Int × Bool)))) hv1 (Wk.tab ⟨Le.refl _, Le.refl _, Le.refl _, Le.refl _, Le.refl _, Le.refl _, True.intro⟩ ⟨⟨_, rfl, .refl _⟩, ⟨_, rfl, .refl _⟩, ⟨_, rfl, .refl _⟩, True.intro⟩ rfl) ?_
    intro s1 y1 hB1 hy1
    unfold sweep_kept__sweep_open_1_B1 at hB1
    refine Ok.seq ?_
    refine Ok.region Tryz.tok ?_
    refine Ok.wk (Wk.tab (L := [(1, (.s (List.map c_api_Room p_rooms))), (2, (.c (.func 48) [] [(.b 1000 0), (.b 1001 0)])), (7, (.m 12)), (13, (.s (List.map c_api_Named p_named))), (14, (vi ((p_named.length : Int)))), (15, (vi s1.1)), (16, (vb ((decide (s1.1 < (p_named.length : Int))))))]) (H' := [(1000, .box [(.s (List.map c_api_Lease p_b0))]), (1001, .box [(vi p_b1)]), (12, .mp false (List.map (fun p => (p.1, cB p.2)) s1.2))]) ⟨Le.refl _, Le.refl _, Le.refl _, Le.refl _, Le.refl _, Le.refl _, Le.refl _, True.intro⟩ ⟨⟨_, rfl, .refl _⟩, ⟨_, rfl, .refl _⟩, ⟨_, rfl, .refl _⟩, True.intro⟩ rfl) ?_
    refine Ok.seq ?_
    refine Ok.cond (d := 16) (b := (decide (s1.1 < (p_named.length : Int)))) rfl hB1 (fun hb hB1 => ?_) fun hb hB1 => ?_
    · refine Ok.skip ?_
      refine Ok.seq ?_
      refine Ok.block ?_
      refine Ok.seq ?_
      refine Ok.region Tryz.tok ?_
      obtain ⟨x1, hx1, hB1⟩ := bindS hB1
      refine ⟨_, idx_nat hx1, _, idx_row hx1, ⟨_, rfl, ⟨_, rfl, ?_⟩⟩⟩
      refine Ok.wk (Wk.tab (L := [(1, (.s (List.map c_api_Room p_rooms))), (2, (.c (.func 48) [] [(.b 1000 0), (.b 1001 0)])), (7, (.m 12)), (9, (.b 9 0)), (13, (.s (List.map c_api_Named p_named))), (14, (vi ((p_named.length : Int)))), (15, (vi s1.1))]) (H' := [(1000, .box [(.s (List.map c_api_Lease p_b0))]), (1001, .box [(vi p_b1)]), (12, .mp false (List.map (fun p => (p.1, cB p.2)) s1.2)), (9, .box [(vi x1.Ino), (vi x1.Shot), (vi x1.Page), (vi x1.Id)])]) ⟨Le.refl _, Le.refl _, Le.refl _, Le.refl _, Le.refl _, Le.refl _, Le.refl _, True.intro⟩ ⟨⟨_, rfl, .refl _⟩, ⟨_, rfl, .refl _⟩, ⟨_, rfl, .refl _⟩, ⟨_, rfl, .refl _⟩, True.intro⟩ rfl) ?_
      refine Ok.region Tryz.tok ?_
      obtain ⟨hc1, hB1⟩ := chk_some hB1
      refine ⟨_, rfl, ⟨hc1.1, Nat.lt_of_le_of_lt (Nat.le_of_eq (List.length_map _)) hc1.2, _, mset_map cB x1.Id true s1.2, ?_⟩⟩
      refine Ok.wk (Wk.tab (L := [(1, (.s (List.map c_api_Room p_rooms))), (2, (.c (.func 48) [] [(.b 1000 0), (.b 1001 0)])), (7, (.m 12)), (13, (.s (List.map c_api_Named p_named))), (14, (vi ((p_named.length : Int)))), (15, (vi s1.1))]) (H' := [(1000, .box [(.s (List.map c_api_Lease p_b0))]), (1001, .box [(vi p_b1)]), (12, .mp false (List.map (fun p => (p.1, cB p.2)) ((mset x1.Id true s1.2))))]) ⟨Le.refl _, Le.refl _, Le.refl _, Le.refl _, Le.refl _, Le.refl _, True.intro⟩ ⟨⟨_, rfl, .refl _⟩, ⟨_, rfl, .refl _⟩, ⟨_, rfl, .refl _⟩, True.intro⟩ rfl) ?_
      refine Ok.region Tryz.tok ?_
      obtain ⟨hc2, hB1⟩ := chk_some hB1
      refine (Or.inl ⟨hc2, ?_⟩)
      exact ⟨_, (Option.some.inj hB1).symm, Wk.tab ⟨Le.refl _, Le.refl _, Le.refl _, Le.refl _, Le.refl _, Le.refl _, True.intro⟩ ⟨⟨_, rfl, .refl _⟩, ⟨_, rfl, .refl _⟩, ⟨_, rfl, .refl _⟩, True.intro⟩ rfl⟩
    · refine Ok.exit ?_
      have hB1 := out_ret hB1 hy1
      cases hB1
      exact Wk.tab ⟨Le.refl _, Le.refl _, Le.refl _, True.intro⟩ ⟨⟨_, rfl, .refl _⟩, ⟨_, rfl, .refl _⟩, ⟨_, rfl, .refl _⟩, True.intro⟩ rfl
  obtain ⟨v2, hv2, h⟩ := bindS h
  refine Ok.seqw ⟨Cat.tab [(7, (.m 12))], [(12, .mp false (List.map (fun p => (p.1, cB p.2)) v2)), (1000, .box [(.s (List.map c_api_Lease p_b0))]), (1001, .box [(vi p_b1)])]⟩ ?_ ?_
  · refine Ok.seq ?_
    refine Ok.region Tryz.tok ?_
    refine ⟨_, List.length_map _, fun _ => ?_⟩
    refine Ok.wk (Wk.tab (L := [(2, (.c (.func 48) [] [(.b 1000 0), (.b 1001 0)])), (7, (.m 12)), (23, (.s (List.map c_api_Room p_rooms))), (24, (vi ((p_rooms.length : Int)))), (25, (vi (0)))]) (H' := [(1000, .box [(.s (List.map c_api_Lease p_b0))]), (1001, .box [(vi p_b1)]), (12, .mp false (List.map (fun p => (p.1, cB p.2)) v1))]) ⟨Le.refl _, Le.refl _, Le.refl _, Le.refl _, Le.refl _, True.intro⟩ ⟨⟨_, rfl, .refl _⟩, ⟨_, rfl, .refl _⟩, ⟨_, rfl, .refl _⟩, True.intro⟩ rfl) ?_
    refine Ok.block ?_
    refine Ok.loop (fun (s2 : Int × (List (Int × Bool))) => ⟨Cat.tab [(2, (.c (.func 48) [] [(.b 1000 0), (.b 1001 0)])), (7, (.m 12)), (23, (.s (List.map c_api_Room p_rooms))), (24, (vi ((p_rooms.length : Int)))), (25, (vi s2.1))], [(1000, .box [(.s (List.map c_api_Lease p_b0))]), (1001, .box [(vi p_b1)]), (12, .mp false (List.map (fun p => (p.1, cB p.2)) s2.2))]⟩) (sweep_kept__sweep_open_1_B2 p_rooms p_b0 p_b1) (s0 := (0, v1)) hv2 (Wk.tab ⟨Le.refl _, Le.refl _, Le.refl _, Le.refl _, Le.refl _, True.intro⟩ ⟨⟨_, rfl, .refl _⟩, ⟨_, rfl, .refl _⟩, ⟨_, rfl, .refl _⟩, True.intro⟩ rfl) ?_
    intro s2 y2 hB2 hy2
    unfold sweep_kept__sweep_open_1_B2 at hB2
    refine Ok.seq ?_
    refine Ok.region Tryz.tok ?_
    refine Ok.wk (Wk.tab (L := [(2, (.c (.func 48) [] [(.b 1000 0), (.b 1001 0)])), (7, (.m 12)), (23, (.s (List.map c_api_Room p_rooms))), (24, (vi ((p_rooms.length : Int)))), (25, (vi s2.1)), (26, (vb ((decide (s2.1 < (p_rooms.length : Int))))))]) (H' := [(1000, .box [(.s (List.map c_api_Lease p_b0))]), (1001, .box [(vi p_b1)]), (12, .mp false (List.map (fun p => (p.1, cB p.2)) s2.2))]) ⟨Le.refl _, Le.refl _, Le.refl _, Le.refl _, Le.refl _, Le.refl _, True.intro⟩ ⟨⟨_, rfl, .refl _⟩, ⟨_, rfl, .refl _⟩, ⟨_, rfl, .refl _⟩, True.intro⟩ rfl) ?_
    refine Ok.seq ?_
    refine Ok.cond (d := 26) (b := (decide (s2.1 < (p_rooms.length : Int)))) rfl hB2 (fun hb hB2 => ?_) fun hb hB2 => ?_
    · refine Ok.skip ?_
      obtain ⟨v3, hv3, hB2⟩ := bindS hB2
      refine Ok.seqw ⟨Cat.tab [(2, (.c (.func 48) [] [(.b 1000 0), (.b 1001 0)])), (7, (.m 12)), (23, (.s (List.map c_api_Room p_rooms))), (24, (vi ((p_rooms.length : Int)))), (25, (vi s2.1))], [(1000, .box [(.s (List.map c_api_Lease p_b0))]), (1001, .box [(vi p_b1)]), (12, .mp false (List.map (fun p => (p.1, cB p.2)) v3))]⟩ ?_ ?_
      · refine Ok.block ?_
        refine Ok.seq ?_
        refine Ok.region Tryz.tok ?_
        obtain ⟨x2, hx2, hv3⟩ := bindS hv3
        refine ⟨_, idx_nat hx2, _, idx_row hx2, ⟨_, rfl, ⟨_, rfl, ?_⟩⟩⟩
        refine Ok.wk (Wk.tab (L := [(2, (.c (.func 48) [] [(.b 1000 0), (.b 1001 0)])), (7, (.m 12)), (11, (.b 11 0)), (23, (.s (List.map c_api_Room p_rooms))), (24, (vi ((p_rooms.length : Int)))), (25, (vi s2.1))]) (H' := [(1000, .box [(.s (List.map c_api_Lease p_b0))]), (1001, .box [(vi p_b1)]), (12, .mp false (List.map (fun p => (p.1, cB p.2)) s2.2)), (11, .box [(vi x2.Id), (vi x2.Ino), (vi x2.Client)])]) ⟨Le.refl _, Le.refl _, Le.refl _, Le.refl _, Le.refl _, Le.refl _, True.intro⟩ ⟨⟨_, rfl, .refl _⟩, ⟨_, rfl, .refl _⟩, ⟨_, rfl, .refl _⟩, ⟨_, rfl, .refl _⟩, True.intro⟩ rfl) ?_
        refine Ok.seq ?_
        refine Ok.region Tryz.tok ?_
        obtain ⟨x3, hx3, hv3⟩ := bindS hv3
        refine ⟨_, rfl, ?_⟩
        refine CallOk.borrow (w_sweep_open_1 hx3) (.cons (Fz.a (.cons Fz.v (.cons Fz.v (.cons Fz.v .nil)))) (.cons (Fz.b rfl rfl) (.cons (Fz.b rfl rfl) (.nil)))) rfl ?_
        refine Ok.wk (Wk.tab (L := [(2, (.c (.func 48) [] [(.b 1000 0), (.b 1001 0)])), (7, (.m 12)), (11, (.b 11 0)), (23, (.s (List.map c_api_Room p_rooms))), (24, (vi ((p_rooms.length : Int)))), (25, (vi s2.1)), (31, (vb x3))]) (H' := [(1000, .box [(.s (List.map c_api_Lease p_b0))]), (1001, .box [(vi p_b1)]), (12, .mp false (List.map (fun p => (p.1, cB p.2)) s2.2)), (11, .box [(vi x2.Id), (vi x2.Ino), (vi x2.Client)])]) ⟨Le.refl _, Le.refl _, Le.refl _, Le.refl _, Le.refl _, Le.refl _, Le.refl _, True.intro⟩ ⟨⟨_, rfl, .refl _⟩, ⟨_, rfl, .refl _⟩, ⟨_, rfl, .refl _⟩, ⟨_, rfl, .refl _⟩, True.intro⟩ rfl) ?_
        refine Ok.cond (d := 31) (b := x3) rfl hv3 (fun hb hv3 => ?_) fun hb hv3 => ?_
        · refine Ok.region Tryz.tok ?_
          obtain ⟨hc3, hv3⟩ := chk_some hv3
          refine ⟨_, rfl, ⟨hc3.1, Nat.lt_of_le_of_lt (Nat.le_of_eq (List.length_map _)) hc3.2, _, mset_map cB x2.Id true s2.2, ?_⟩⟩
          cases hv3
          exact Wk.tab ⟨Le.refl _, Le.refl _, Le.refl _, Le.refl _, Le.refl _, True.intro⟩ ⟨⟨_, rfl, .refl _⟩, ⟨_, rfl, .refl _⟩, ⟨_, rfl, .refl _⟩, True.intro⟩ rfl
        · refine Ok.skip ?_
          cases hv3
          exact Wk.tab ⟨Le.refl _, Le.refl _, Le.refl _, Le.refl _, Le.refl _, True.intro⟩ ⟨⟨_, rfl, .refl _⟩, ⟨_, rfl, .refl _⟩, ⟨_, rfl, .refl _⟩, True.intro⟩ rfl
      refine Ok.region Tryz.tok ?_
      obtain ⟨hc4, hB2⟩ := chk_some hB2
      refine (Or.inl ⟨hc4, ?_⟩)
      exact ⟨_, (Option.some.inj hB2).symm, Wk.tab ⟨Le.refl _, Le.refl _, Le.refl _, Le.refl _, Le.refl _, True.intro⟩ ⟨⟨_, rfl, .refl _⟩, ⟨_, rfl, .refl _⟩, ⟨_, rfl, .refl _⟩, True.intro⟩ rfl⟩
    · refine Ok.exit ?_
      have hB2 := out_ret hB2 hy2
      cases hB2
      exact Wk.tab ⟨Le.refl _, True.intro⟩ ⟨⟨_, rfl, .refl _⟩, ⟨_, rfl, .refl _⟩, ⟨_, rfl, .refl _⟩, True.intro⟩ rfl
  refine Ok.seq ?_
  refine Ok.region Tryz.tok ?_
  refine Ok.wk (Wk.tab (L := [(6, (.m 12))]) (H' := [(12, .mp false (List.map (fun p => (p.1, cB p.2)) v2)), (1000, .box [(.s (List.map c_api_Lease p_b0))]), (1001, .box [(vi p_b1)])]) ⟨Le.refl _, True.intro⟩ ⟨⟨_, rfl, .refl _⟩, ⟨_, rfl, .refl _⟩, ⟨_, rfl, .refl _⟩, True.intro⟩ rfl) ?_
  refine Ok.ret ?_
  cases h
  exact Wk.tab ⟨Le.refl _, True.intro⟩ ⟨⟨_, rfl, .refl _⟩, ⟨_, rfl, .refl _⟩, ⟨_, rfl, .refl _⟩, True.intro⟩ rfl

theorem w_slices_Reverse_api_Page_api_Page {self : List api_Page} {r : Unit × List api_Page} (h : slices_Reverse_api_Page_api_Page self = some r) : PChg Tryz.prog 85 [(.o 1000)] (.own 120 2 (List.map c_api_Page self)) (fun x c => x = (.t []) ∧ c = .own 120 2 (List.map c_api_Page r.2)) := by
  refine pchg_of_ok (n := 28) (c := (Tryz.f85.body.getD .skip)) Tryz.tok Tryz.func85 (by kernel_rfl) rfl rfl (Nat.le_of_ble_eq_true rfl) ?_
  unfold slices_Reverse_api_Page_api_Page at h
  refine Ok.wk (Wk.tab (L := [(0, (.o 1000))]) (H' := [(1000, .own 120 2 (List.map c_api_Page self))]) ⟨Le.refl _, True.intro⟩ ⟨⟨_, rfl, .refl _⟩, True.intro⟩ rfl) ?_
  refine Ok.seq ?_
  refine Ok.region Tryz.tok ?_
  obtain ⟨hc1, h⟩ := chk_some h
  refine ⟨_, List.length_map _, fun _ => (Or.inl ⟨hc1, ?_⟩)⟩
  refine Ok.wk (Wk.tab (L := [(0, (.o 1000)), (2, (vi (0))), (3, (vi (((self.length : Int) - 1))))]) (H' := [(1000, .own 120 2 (List.map c_api_Page self))]) ⟨Le.refl _, Le.refl _, Le.refl _, True.intro⟩ ⟨⟨_, rfl, .refl _⟩, True.intro⟩ rfl) ?_
  refine Ok.block ?_
  refine Ok.loop (fun (s1 : Int × Int × (List api_Page)) => ⟨Cat.tab [(0, (.o 1000)), (2, (vi s1.1)), (3, (vi s1.2.1))], [(1000, .own 120 2 (List.map c_api_Page s1.2.2))]⟩) (slices_Reverse_api_Page_api_Page_B1) (s0 := (0, ((self.length : Int) - 1), self)) h (Wk.tab ⟨Le.refl _, Le.refl _, Le.refl _, True.intro⟩ ⟨⟨_, rfl, .refl _⟩, True.intro⟩ rfl) ?_
  intro s1 y1 hB1 hy1
  unfold slices_Reverse_api_Page_api_Page_B1 at hB1
  refine Ok.seq ?_
  refine Ok.seq ?_
  refine Ok.region Tryz.tok ?_
  refine Ok.wk (Wk.tab (L := [(0, (.o 1000)), (2, (vi s1.1)), (3, (vi s1.2.1)), (9, (vb ((decide (s1.1 < s1.2.1)))))]) (H' := [(1000, .own 120 2 (List.map c_api_Page s1.2.2))]) ⟨Le.refl _, Le.refl _, Le.refl _, Le.refl _, True.intro⟩ ⟨⟨_, rfl, .refl _⟩, True.intro⟩ rfl) ?_
  refine Ok.cond (d := 9) (b := (decide (s1.1 < s1.2.1))) rfl hB1 (fun hb hB1 => ?_) fun hb hB1 => ?_
  · refine Ok.skip ?_
    refine Ok.seq ?_
    refine Ok.block ?_
    refine Ok.draw2 (m := 13) (late := [2, 3]) (MD := ⟨[]⟩) (CH := ⟨[]⟩) Tryz.tok Tryz.mixed (by kernel_rfl) ?_
    obtain ⟨x1, hx1, hB1⟩ := bindS hB1
    obtain ⟨x2, hx2, hB1⟩ := bindS hB1
    obtain ⟨x3, hx3, hB1⟩ := bindS hB1
    refine ⟨_, rfl, ⟨_, rfl, ⟨_, rfl, ⟨_, rfl, ⟨_, rfl, ⟨_, rfl, ⟨_, ⟨_, idx_nat hx1, idx_ltm hx1, rfl⟩, ⟨_, ⟨_, idx_row hx1, rfl, _, rfl, rfl⟩, ⟨_, rfl, ⟨_, rfl, ⟨_, ⟨_, idx_nat hx2, idx_ltm hx2, rfl⟩, ⟨_, ⟨_, idx_row hx2, rfl, _, rfl, rfl⟩, ⟨_, ⟨_, idx_nat hx3, idx_ltm hx3, rfl⟩, ⟨True.intro, ?_⟩⟩⟩⟩⟩⟩⟩⟩⟩⟩⟩⟩⟩⟩
    obtain ⟨x4, hx4, hB1⟩ := bindS hB1
    refine ⟨_, idx_row hx3, rfl, _, rfl, _, set_row (f := c_api_Page) (x := x1), ⟨⟨⟨_, rfl, rfl⟩, ⟨_, rfl, rfl⟩, True.intro⟩, ⟨_, idx_nat hx4, idx_ltm hx4, ⟨_, idx_row hx4, rfl, _, rfl, _, set_row (f := c_api_Page) (x := x2), ?_⟩⟩⟩⟩
    refine Ok.wk (Wk.tab (L := [(0, (.o 1000)), (2, (vi s1.1)), (3, (vi s1.2.1))]) (H' := [(1000, .own 120 2 (List.map c_api_Page ((((s1.2.2.set s1.1.toNat x1)).set s1.2.1.toNat x2))))]) ⟨Le.refl _, Le.refl _, Le.refl _, True.intro⟩ ⟨⟨_, rfl, .refl _⟩, True.intro⟩ rfl) ?_
    refine Ok.region Tryz.tok ?_
    obtain ⟨hc2, hB1⟩ := chk_some hB1
    obtain ⟨hc3, hB1⟩ := chk_some hB1
    refine (Or.inl ⟨hc2, (Or.inl ⟨hc3, ?_⟩)⟩)
    exact ⟨_, (Option.some.inj hB1).symm, Wk.tab ⟨Le.refl _, Le.refl _, Le.refl _, True.intro⟩ ⟨⟨_, rfl, .refl _⟩, True.intro⟩ rfl⟩
  · refine Ok.exit ?_
    have hB1 := out_ret hB1 hy1
    cases hB1
    exact ⟨_, _, ⟨rfl, rfl⟩, rfl, rfl, (Fz.t .nil)⟩

theorem w_disk_Read_1 {p_p : api_Page} {p_a1_0 : Int} {r : Bool} (h : disk_Read_1 p_p p_a1_0 = some r) : Pure Tryz.prog 87 [(.a [(vi p_p.At), (.s (List.map cU8 p_p.Data))]), (.p [(vi p_a1_0)])] (vb r) := by
  refine pure_of_ok (n := 8) (c := (Tryz.f87.body.getD .skip)) Tryz.tok Tryz.func87 (by kernel_rfl) rfl rfl (Nat.le_of_ble_eq_true rfl) ?_
  unfold disk_Read_1 at h
  refine Ok.wk (Wk.tab (L := [(0, (.a [(vi p_p.At), (.s (List.map cU8 p_p.Data))])), (1, (.p [(vi p_a1_0)]))]) (H' := []) ⟨Le.refl _, Le.refl _, True.intro⟩ True.intro rfl) ?_
  refine Ok.seq ?_
  refine Ok.region Tryz.tok ?_
  refine Ok.wk (Wk.tab (L := [(1, (.p [(vi p_a1_0)])), (2, (.b 2 0))]) (H' := [(2, .box [(vi p_p.At), (.s (List.map cU8 p_p.Data))])]) ⟨Le.refl _, Le.refl _, True.intro⟩ ⟨⟨_, rfl, .refl _⟩, True.intro⟩ rfl) ?_
  refine Ok.seq ?_
  refine Ok.region Tryz.tok ?_
  refine ⟨_, rfl, ⟨_, rfl, ?_⟩⟩
  refine Ok.wk (Wk.tab (L := [(3, (vb ((p_p.At == p_a1_0))))]) (H' := []) ⟨Le.refl _, True.intro⟩ True.intro rfl) ?_
  refine Ok.ret ?_
  cases h
  exact Fz.v

theorem w_slices_IndexFunc_api_Page_api_Page__disk_Read_1 {p_s : List api_Page} {p_f_c0_0 : Int} {r : Int} (h : slices_IndexFunc_api_Page_api_Page__disk_Read_1 p_s p_f_c0_0 = some r) : Pure Tryz.prog 113 [(.s (List.map c_api_Page p_s)), (.c (.func 87) [] [(.p [(vi p_f_c0_0)])])] (vi r) := by
  refine pure_of_ok (n := 19) (c := (Tryz.f113.body.getD .skip)) Tryz.tok Tryz.func113 (by kernel_rfl) rfl rfl (Nat.le_of_ble_eq_true rfl) ?_
  unfold slices_IndexFunc_api_Page_api_Page__disk_Read_1 at h
  refine Ok.wk (Wk.tab (L := [(0, (.s (List.map c_api_Page p_s))), (1, (.c (.func 87) [] [(.p [(vi p_f_c0_0)])]))]) (H' := []) ⟨Le.refl _, Le.refl _, True.intro⟩ True.intro rfl) ?_
  refine Ok.seq ?_
  refine Ok.region Tryz.tok ?_
  refine Ok.wk (Wk.tab (L := [(0, (.s (List.map c_api_Page p_s))), (1, (.c (.func 87) [] [(.p [(vi p_f_c0_0)])]))]) (H' := []) ⟨Le.refl _, Le.refl _, True.intro⟩ True.intro rfl) ?_
  refine Ok.seqj (fun v1 => ⟨Cat.tab [], []⟩) (fun v1 => slices_IndexFunc_api_Page_api_Page__disk_Read_1_J1 v1 = some r) ?_ ?_
  · refine Ok.seq ?_
    refine Ok.region Tryz.tok ?_
    refine ⟨_, List.length_map _, fun _ => ?_⟩
    refine Ok.wk (Wk.tab (L := [(0, (.s (List.map c_api_Page p_s))), (1, (.c (.func 87) [] [(.p [(vi p_f_c0_0)])])), (7, (vi ((p_s.length : Int)))), (8, (vi (0)))]) (H' := []) ⟨Le.refl _, Le.refl _, Le.refl _, Le.refl _, True.intro⟩ True.intro rfl) ?_
    refine Ok.block ?_
    refine Ok.loop (fun (s1 : Int) => ⟨Cat.tab [(0, (.s (List.map c_api_Page p_s))), (1, (.c (.func 87) [] [(.p [(vi p_f_c0_0)])])), (7, (vi ((p_s.length : Int)))), (8, (vi s1))], []⟩) (slices_IndexFunc_api_Page_api_Page__disk_Read_1_B1 p_s p_f_c0_0) (s0 := 0) h (Wk.tab ⟨Le.refl _, Le.refl _, Le.refl _, Le.refl _, True.intro⟩ True.intro rfl) ?_
    intro s1 y1 hB1 hy1
    unfold slices_IndexFunc_api_Page_api_Page__disk_Read_1_B1 at hB1
    refine Ok.seq ?_
    refine Ok.region Tryz.tok ?_
    refine Ok.wk (Wk.tab (L := [(0, (.s (List.map c_api_Page p_s))), (1, (.c (.func 87) [] [(.p [(vi p_f_c0_0)])])), (7, (vi ((p_s.length : Int)))), (8, (vi s1)), (9, (vb ((decide (s1 < (p_s.length : Int))))))]) (H' := []) ⟨Le.refl _, Le.refl _, Le.refl _, Le.refl _, Le.refl _, True.intro⟩ True.intro rfl) ?_
    refine Ok.seq ?_
    refine Ok.cond (d := 9) (b := (decide (s1 < (p_s.length : Int)))) rfl hB1 (fun hb hB1 => ?_) fun hb hB1 => ?_
    · refine Ok.skip ?_
      refine Ok.seq ?_
      refine Ok.block ?_
      refine Ok.seq ?_
      refine Ok.region Tryz.tok ?_
      refine Ok.wk (Wk.tab (L := [(0, (.s (List.map c_api_Page p_s))), (1, (.c (.func 87) [] [(.p [(vi p_f_c0_0)])])), (5, (vi s1)), (7, (vi ((p_s.length : Int)))), (8, (vi s1))]) (H' := []) ⟨Le.refl _, Le.refl _, Le.refl _, Le.refl _, Le.refl _, True.intro⟩ True.intro rfl) ?_
      refine Ok.seq ?_
      refine Ok.region Tryz.tok ?_
      obtain ⟨x1, hx1, hB1⟩ := bindS hB1
      obtain ⟨x2, hx2, hB1⟩ := bindS hB1
      refine ⟨_, idx_nat hx1, _, idx_row hx1, ⟨_, rfl, ?_⟩⟩
      refine CallOk.call (w_disk_Read_1 hx2) (LeL.refl _) ?_
      refine Ok.wk (Wk.tab (L := [(0, (.s (List.map c_api_Page p_s))), (1, (.c (.func 87) [] [(.p [(vi p_f_c0_0)])])), (5, (vi s1)), (7, (vi ((p_s.length : Int)))), (8, (vi s1)), (16, (vb x2))]) (H' := []) ⟨Le.refl _, Le.refl _, Le.refl _, Le.refl _, Le.refl _, Le.refl _, True.intro⟩ True.intro rfl) ?_
      refine Ok.cond (d := 16) (b := x2) rfl hB1 (fun hb hB1 => ?_) fun hb hB1 => ?_
      · refine Ok.seq ?_
        refine Ok.region Tryz.tok ?_
        refine Ok.wk (Wk.tab (L := [(4, (vi s1))]) (H' := []) ⟨Le.refl _, True.intro⟩ True.intro rfl) ?_
        refine Ok.ret ?_
        have hB1 := out_ret hB1 hy1
        cases hB1
        exact Fz.v
      · refine Ok.skip ?_
        refine Ok.region Tryz.tok ?_
        obtain ⟨hc1, hB1⟩ := chk_some hB1
        refine (Or.inl ⟨hc1, ?_⟩)
        exact ⟨_, (Option.some.inj hB1).symm, Wk.tab ⟨Le.refl _, Le.refl _, Le.refl _, Le.refl _, True.intro⟩ True.intro rfl⟩
    · refine Ok.exit ?_
      have hB1 := out_ret hB1 hy1
      exact ⟨_, hB1, Wk.tab True.intro True.intro rfl⟩
  intro v1 h
  unfold slices_IndexFunc_api_Page_api_Page__disk_Read_1_J1 at h
  refine Ok.seq ?_
  refine Ok.region Tryz.tok ?_
  refine Ok.wk (Wk.tab (L := [(4, (vi ((-1))))]) (H' := []) ⟨Le.refl _, True.intro⟩ True.intro rfl) ?_
  refine Ok.ret ?_
  cases h
  exact Fz.v

theorem w_disk_find_api_Page__disk_Read_1 {p_l : List api_Page} {p_is_c0 : Int} {r : Int} (h : disk_find_api_Page__disk_Read_1 p_l p_is_c0 = some r) : Pure Tryz.prog 86 [(.s (List.map c_api_Page p_l)), (.c (.func 87) [] [(.p [(vi p_is_c0)])])] (vi r) := by
  refine pure_of_ok (n := 8) (c := (Tryz.f86.body.getD .skip)) Tryz.tok Tryz.func86 (by kernel_rfl) rfl rfl (Nat.le_of_ble_eq_true rfl) ?_
  unfold disk_find_api_Page__disk_Read_1 at h
  refine Ok.wk (Wk.tab (L := [(0, (.s (List.map c_api_Page p_l))), (1, (.c (.func 87) [] [(.p [(vi p_is_c0)])]))]) (H' := []) ⟨Le.refl _, Le.refl _, True.intro⟩ True.intro rfl) ?_
  refine Ok.seq ?_
  refine Ok.region Tryz.tok ?_
  refine Ok.wk (Wk.tab (L := [(0, (.s (List.map c_api_Page p_l))), (1, (.c (.func 87) [] [(.p [(vi p_is_c0)])]))]) (H' := []) ⟨Le.refl _, Le.refl _, True.intro⟩ True.intro rfl) ?_
  refine Ok.seq ?_
  refine Ok.region Tryz.tok ?_
  obtain ⟨x1, hx1, h⟩ := bindS h
  refine CallOk.call (w_slices_IndexFunc_api_Page_api_Page__disk_Read_1 hx1) (LeL.refl _) ?_
  refine Ok.wk (Wk.tab (L := [(4, (vi x1))]) (H' := []) ⟨Le.refl _, True.intro⟩ True.intro rfl) ?_
  refine Ok.ret ?_
  cases h
  exact Fz.v

theorem w_disk_Read {p_d : api_Disk} {p_at : Int} {r : (List UInt8) × Int} (h : disk_Read p_d p_at = some r) : Pure Tryz.prog 60 [(.a [(.s (List.map c_api_Page p_d.Synced)), (.s (List.map c_api_Page p_d.Loose)), (vb p_d.Down)]), (vi p_at)] (.t [(.s (List.map cU8 r.1)), (vi r.2)]) := by
  refine pure_of_ok (n := 34) (c := (Tryz.f60.body.getD .skip)) Tryz.tok Tryz.func60 (by kernel_rfl) rfl rfl (Nat.le_of_ble_eq_true rfl) ?_
  unfold disk_Read at h
  refine Ok.wk (Wk.tab (L := [(0, (.a [(.s (List.map c_api_Page p_d.Synced)), (.s (List.map c_api_Page p_d.Loose)), (vb p_d.Down)])), (1, (vi p_at))]) (H' := []) ⟨Le.refl _, Le.refl _, True.intro⟩ True.intro rfl) ?_
  refine Ok.seq ?_
  refine Ok.region Tryz.tok ?_
  refine Ok.wk (Wk.tab (L := [(2, (.b 2 0)), (3, (.b 3 0))]) (H' := [(2, .box [(.s (List.map c_api_Page p_d.Synced)), (.s (List.map c_api_Page p_d.Loose)), (vb p_d.Down)]), (3, .box [(vi p_at)])]) ⟨Le.refl _, Le.refl _, True.intro⟩ ⟨⟨_, rfl, .refl _⟩, ⟨_, rfl, .refl _⟩, True.intro⟩ rfl) ?_
  refine Ok.seq ?_
  refine Ok.block ?_
  refine Ok.seq ?_
  refine Ok.region Tryz.tok ?_
  refine ⟨_, rfl, ?_⟩
  refine Ok.wk (Wk.tab (L := [(2, (.b 2 0)), (3, (.b 3 0)), (8, (vb p_d.Down))]) (H' := [(2, .box [(.s (List.map c_api_Page p_d.Synced)), (.s (List.map c_api_Page p_d.Loose)), (vb p_d.Down)]), (3, .box [(vi p_at)])]) ⟨Le.refl _, Le.refl _, Le.refl _, True.intro⟩ ⟨⟨_, rfl, .refl _⟩, ⟨_, rfl, .refl _⟩, True.intro⟩ rfl) ?_
  refine Ok.cond (d := 8) (b := p_d.Down) rfl h (fun hb h => ?_) fun hb h => ?_
  · refine Ok.seq ?_
    refine Ok.region Tryz.tok ?_
    refine Ok.wk (Wk.tab (L := [(4, (.v (.slice none 0 0))), (5, (vi (40)))]) (H' := []) ⟨Le.refl _, Le.refl _, True.intro⟩ True.intro rfl) ?_
    refine Ok.ret ?_
    cases h
    exact (Fz.t (.cons Fz.nil (.cons Fz.v .nil)))
  · refine Ok.seq ?_
    refine Ok.region Tryz.tok ?_
    obtain ⟨x1, hx1, h⟩ := bindS h
    refine ⟨_, rfl, ?_⟩
    refine CallOk.call (w_disk_may hx1) (.cons (Le.refl _) (.cons (Le.nil) (.nil))) ?_
    refine Ok.wk (Wk.tab (L := [(2, (.b 2 0)), (3, (.b 3 0)), (11, (vb ((!x1))))]) (H' := [(2, .box [(.s (List.map c_api_Page p_d.Synced)), (.s (List.map c_api_Page p_d.Loose)), (vb p_d.Down)]), (3, .box [(vi p_at)])]) ⟨Le.refl _, Le.refl _, Le.refl _, True.intro⟩ ⟨⟨_, rfl, .refl _⟩, ⟨_, rfl, .refl _⟩, True.intro⟩ rfl) ?_
    refine Ok.cond (d := 11) (b := (!x1)) rfl h (fun hb h => ?_) fun hb h => ?_
    · refine Ok.seq ?_
      refine Ok.region Tryz.tok ?_
      refine Ok.wk (Wk.tab (L := [(4, (.v (.slice none 0 0))), (5, (vi (1)))]) (H' := []) ⟨Le.refl _, Le.refl _, True.intro⟩ True.intro rfl) ?_
      refine Ok.ret ?_
      cases h
      exact (Fz.t (.cons Fz.nil (.cons Fz.v .nil)))
    · refine Ok.skip ?_
      refine Ok.seq ?_
      refine Ok.region Tryz.tok ?_
      obtain ⟨x2, hx2, h⟩ := bindS h
      refine ⟨_, rfl, ⟨_, rfl, Or.inl ?_⟩⟩
      refine CallOk.own (D := 20) (wo_slices_Concat_api_Page_api_Page hx2) (LeL.refl _) rfl ?_
      refine Ok.wk (Wk.tab (L := [(3, (.b 3 0)), (6, (.o 20))]) (H' := [(3, .box [(vi p_at)]), (20, .own 120 2 (List.map c_api_Page x2))]) ⟨Le.refl _, Le.refl _, True.intro⟩ ⟨⟨_, rfl, .refl _⟩, ⟨_, rfl, .refl _⟩, True.intro⟩ rfl) ?_
      refine Ok.seq ?_
      refine Ok.region Tryz.tok ?_
      obtain ⟨x3, hx3, h⟩ := bindS h
      refine CallOk.chgLe (id := 20) (w_slices_Reverse_api_Page_api_Page hx3) rfl (.refl _) rfl (.cons (Lr.o) (.nil)) ?_
      rintro _ _ ⟨rfl, rfl⟩
      refine Ok.wk (Wk.tab (L := [(3, (.b 3 0)), (6, (.o 20))]) (H' := [(3, .box [(vi p_at)]), (20, .own 120 2 (List.map c_api_Page x3.2))]) ⟨Le.refl _, Le.refl _, True.intro⟩ ⟨⟨_, rfl, .refl _⟩, ⟨_, rfl, .refl _⟩, True.intro⟩ rfl) ?_
      refine Ok.seq ?_
      refine Ok.region Tryz.tok ?_
      obtain ⟨x4, hx4, h⟩ := bindS h
      refine CallOk.borrow (w_disk_find_api_Page__disk_Read_1 hx4) (.cons (Fz.o rfl) (.cons (Fz.c .nil (.cons (Fz.b rfl rfl) .nil)) (.nil))) rfl ?_
      refine Ok.wk (Wk.tab (L := [(6, (.o 20)), (7, (vi x4))]) (H' := [(20, .own 120 2 (List.map c_api_Page x3.2))]) ⟨Le.refl _, Le.refl _, True.intro⟩ ⟨⟨_, rfl, .refl _⟩, True.intro⟩ rfl) ?_
      refine Ok.seq ?_
      refine Ok.seq ?_
      refine Ok.region Tryz.tok ?_
      refine Ok.wk (Wk.tab (L := [(6, (.o 20)), (7, (vi x4)), (27, (vb ((decide (x4 < 0)))))]) (H' := [(20, .own 120 2 (List.map c_api_Page x3.2))]) ⟨Le.refl _, Le.refl _, Le.refl _, True.intro⟩ ⟨⟨_, rfl, .refl _⟩, True.intro⟩ rfl) ?_
      refine Ok.cond (d := 27) (b := (decide (x4 < 0))) rfl h (fun hb h => ?_) fun hb h => ?_
      · refine Ok.seq ?_
        refine Ok.region Tryz.tok ?_
        refine Ok.wk (Wk.tab (L := [(4, (.v (.slice none 0 0))), (5, (vi (41)))]) (H' := []) ⟨Le.refl _, Le.refl _, True.intro⟩ True.intro rfl) ?_
        refine Ok.ret ?_
        cases h
        exact (Fz.t (.cons Fz.nil (.cons Fz.v .nil)))
      · refine Ok.skip ?_
        refine Ok.seq ?_
        refine Ok.region Tryz.tok ?_
        obtain ⟨x5, hx5, h⟩ := bindS h
        obtain ⟨x6, hx6, h⟩ := bindS h
        refine ⟨_, idx_nat hx5, idx_ltm hx5, ⟨_, idx_row hx5, rfl, _, rfl, ?_⟩⟩
        refine CallOk.call (w_bytes_Clone hx6) (LeL.refl _) ?_
        refine Ok.wk (Wk.tab (L := [(4, (.s (List.map cU8 x6))), (5, (vi (0)))]) (H' := []) ⟨Le.refl _, Le.refl _, True.intro⟩ True.intro rfl) ?_
        refine Ok.ret ?_
        cases h
        exact (Fz.t (.cons Fz.s (.cons Fz.v .nil)))

theorem w_chunk_there {p_d : api_Disk} {p_id : Int} {r : (List UInt8) × Int} (h : chunk_there p_d p_id = some r) : Pure Tryz.prog 36 [(.a [(.s (List.map c_api_Page p_d.Synced)), (.s (List.map c_api_Page p_d.Loose)), (vb p_d.Down)]), (vi p_id)] (.t [(.s (List.map cU8 r.1)), (vi r.2)]) := by
  refine pure_of_ok (n := 26) (c := (Tryz.f36.body.getD .skip)) Tryz.tok Tryz.func36 (by kernel_rfl) rfl rfl (Nat.le_of_ble_eq_true rfl) ?_
  unfold chunk_there at h
  refine Ok.wk (Wk.tab (L := [(0, (.a [(.s (List.map c_api_Page p_d.Synced)), (.s (List.map c_api_Page p_d.Loose)), (vb p_d.Down)])), (1, (vi p_id))]) (H' := []) ⟨Le.refl _, Le.refl _, True.intro⟩ True.intro rfl) ?_
  refine Ok.seq ?_
  refine Ok.region Tryz.tok ?_
  refine Ok.wk (Wk.tab (L := [(1, (vi p_id)), (2, (.b 2 0))]) (H' := [(2, .box [(.s (List.map c_api_Page p_d.Synced)), (.s (List.map c_api_Page p_d.Loose)), (vb p_d.Down)])]) ⟨Le.refl _, Le.refl _, True.intro⟩ ⟨⟨_, rfl, .refl _⟩, True.intro⟩ rfl) ?_
  refine Ok.seq ?_
  refine Ok.seq ?_
  refine Ok.region Tryz.tok ?_
  obtain ⟨x1, hx1, h⟩ := bindS h
  refine CallOk.call (w_chunk_within hx1) (LeL.refl _) ?_
  refine Ok.wk (Wk.tab (L := [(1, (vi p_id)), (2, (.b 2 0)), (10, (vb ((!x1))))]) (H' := [(2, .box [(.s (List.map c_api_Page p_d.Synced)), (.s (List.map c_api_Page p_d.Loose)), (vb p_d.Down)])]) ⟨Le.refl _, Le.refl _, Le.refl _, True.intro⟩ ⟨⟨_, rfl, .refl _⟩, True.intro⟩ rfl) ?_
  refine Ok.cond (d := 10) (b := (!x1)) rfl h (fun hb h => ?_) fun hb h => ?_
  · refine Ok.seq ?_
    refine Ok.region Tryz.tok ?_
    refine Ok.wk (Wk.tab (L := [(4, (.v (.slice none 0 0))), (5, (vi (1)))]) (H' := []) ⟨Le.refl _, Le.refl _, True.intro⟩ True.intro rfl) ?_
    refine Ok.ret ?_
    cases h
    exact (Fz.t (.cons Fz.nil (.cons Fz.v .nil)))
  · refine Ok.skip ?_
    refine Ok.seq ?_
    refine Ok.region Tryz.tok ?_
    obtain ⟨x2, hx2, h⟩ := bindS h
    refine ⟨_, rfl, ?_⟩
    refine CallOk.call (w_disk_Read hx2) (LeL.refl _) ?_
    refine Ok.wk (Wk.tab (L := [(6, (.s (List.map cU8 x2.1))), (7, (vi x2.2))]) (H' := []) ⟨Le.refl _, Le.refl _, True.intro⟩ True.intro rfl) ?_
    refine Ok.seq ?_
    obtain ⟨v1, hv1, h⟩ := bindS h
    refine Ok.seqw ⟨Cat.tab [(6, (.s (List.map cU8 x2.1))), (7, (vi x2.2)), (23, (vb v1))], []⟩ ?_ ?_
    · refine Ok.region Tryz.tok ?_
      obtain ⟨c1, hg1, hv1⟩ := bindS hv1
      refine Br.ite hg1 (fun hb hg1 => ?_) fun hb hg1 => ?_
      · refine ⟨_, List.length_map _, fun _ => ?_⟩
        cases hg1
        cases hv1
        exact Wk.tab ⟨Le.refl _, Le.refl _, Le.refl _, True.intro⟩ True.intro rfl
      · cases hg1
        cases hv1
        exact Wk.tab ⟨Le.refl _, Le.refl _, Le.refl _, True.intro⟩ True.intro rfl
    refine Ok.cond (d := 23) (b := v1) rfl h (fun hb h => ?_) fun hb h => ?_
    · refine Ok.seq ?_
      refine Ok.region Tryz.tok ?_
      refine Ok.wk (Wk.tab (L := [(4, (.v (.slice none 0 0))), (5, (vi (41)))]) (H' := []) ⟨Le.refl _, Le.refl _, True.intro⟩ True.intro rfl) ?_
      refine Ok.ret ?_
      cases h
      exact (Fz.t (.cons Fz.nil (.cons Fz.v .nil)))
    · refine Ok.skip ?_
      refine Ok.seq ?_
      refine Ok.region Tryz.tok ?_
      refine Ok.wk (Wk.tab (L := [(4, (.s (List.map cU8 x2.1))), (5, (vi x2.2))]) (H' := []) ⟨Le.refl _, Le.refl _, True.intro⟩ True.intro rfl) ?_
      refine Ok.ret ?_
      cases h
      exact (Fz.t (.cons Fz.s (.cons Fz.v .nil)))

theorem wo_chunk_Has {p_d : api_Disk} {r : (List Int)} (h : chunk_Has p_d = some r) : POwn Tryz.prog 20 [(.a [(.s (List.map c_api_Page p_d.Synced)), (.s (List.map c_api_Page p_d.Loose)), (vb p_d.Down)])] 3 1 (List.map Go.Cat.encI r) := by
  refine pown_of_ok (n := 24) (c := (Tryz.f20.body.getD .skip)) Tryz.tok Tryz.func20 (by kernel_rfl) rfl rfl (Nat.le_of_ble_eq_true rfl) ?_
  unfold chunk_Has at h
  refine Ok.wk (Wk.tab (L := [(0, (.a [(.s (List.map c_api_Page p_d.Synced)), (.s (List.map c_api_Page p_d.Loose)), (vb p_d.Down)]))]) (H' := []) ⟨Le.refl _, True.intro⟩ True.intro rfl) ?_
  refine Ok.seq ?_
  refine Ok.region Tryz.tok ?_
  refine Ok.wk (Wk.tab (L := [(1, (.b 1 0))]) (H' := [(1, .box [(.s (List.map c_api_Page p_d.Synced)), (.s (List.map c_api_Page p_d.Loose)), (vb p_d.Down)])]) ⟨Le.refl _, True.intro⟩ ⟨⟨_, rfl, .refl _⟩, True.intro⟩ rfl) ?_
  refine Ok.seq ?_
  refine Ok.region Tryz.tok ?_
  refine Ok.wk (Wk.tab (L := [(1, (.b 1 0)), (3, (.v (.slice none 0 0)))]) (H' := [(1, .box [(.s (List.map c_api_Page p_d.Synced)), (.s (List.map c_api_Page p_d.Loose)), (vb p_d.Down)])]) ⟨Le.refl _, Le.refl _, True.intro⟩ ⟨⟨_, rfl, .refl _⟩, True.intro⟩ rfl) ?_
  obtain ⟨v1, hv1, h⟩ := bindS h
  refine Ok.seqw ⟨Cat.tab [(3, (.o 21))], [(21, .own 3 1 (List.map Go.Cat.encI v1))]⟩ ?_ ?_
  · refine Ok.seq ?_
    refine Ok.region Tryz.tok ?_
    refine Ok.wk (Wk.tab (L := [(1, (.b 1 0)), (3, (.v (.slice none 0 0))), (7, (vi (0)))]) (H' := [(1, .box [(.s (List.map c_api_Page p_d.Synced)), (.s (List.map c_api_Page p_d.Loose)), (vb p_d.Down)])]) ⟨Le.refl _, Le.refl _, Le.refl _, True.intro⟩ ⟨⟨_, rfl, .refl _⟩, True.intro⟩ rfl) ?_
    refine Ok.block ?_
    refine Ok.loop (fun (s1 : Int × (List Int)) => ⟨Cat.tab [(1, (.b 1 0)), (3, (.o 21)), (7, (vi s1.1))], [(1, .box [(.s (List.map c_api_Page p_d.Synced)), (.s (List.map c_api_Page p_d.Loose)), (vb p_d.Down)]), (21, .own 3 1 (List.map Go.Cat.encI s1.2))]⟩) (chunk_Has_B1 p_d) (s0 := (0, [])) hv1 ((Wk.own0 (t := 3) (id := 21) (E := 3) (K := 1) rfl rfl).trans (Wk.tab ⟨Le.refl _, Le.refl _, Le.refl _, True.intro⟩ ⟨⟨_, rfl, .refl _⟩, ⟨_, rfl, .refl _⟩, True.intro⟩ rfl)) ?_
    intro s1 y1 hB1 hy1
    unfold chunk_Has_B1 at hB1
    refine Ok.seq ?_
    refine Ok.region Tryz.tok ?_
    refine Ok.wk (Wk.tab (L := [(1, (.b 1 0)), (3, (.o 21)), (7, (vi s1.1)), (8, (vb ((decide (s1.1 < 200)))))]) (H' := [(1, .box [(.s (List.map c_api_Page p_d.Synced)), (.s (List.map c_api_Page p_d.Loose)), (vb p_d.Down)]), (21, .own 3 1 (List.map Go.Cat.encI s1.2))]) ⟨Le.refl _, Le.refl _, Le.refl _, Le.refl _, True.intro⟩ ⟨⟨_, rfl, .refl _⟩, ⟨_, rfl, .refl _⟩, True.intro⟩ rfl) ?_
    refine Ok.seq ?_
    refine Ok.cond (d := 8) (b := (decide (s1.1 < 200))) rfl hB1 (fun hb hB1 => ?_) fun hb hB1 => ?_
    · refine Ok.skip ?_
      obtain ⟨v2, hv2, hB1⟩ := bindS hB1
      refine Ok.seqw ⟨Cat.tab [(1, (.b 1 0)), (3, (.o 21)), (7, (vi s1.1))], [(1, .box [(.s (List.map c_api_Page p_d.Synced)), (.s (List.map c_api_Page p_d.Loose)), (vb p_d.Down)]), (21, .own 3 1 (List.map Go.Cat.encI v2))]⟩ ?_ ?_
      · refine Ok.block ?_
        refine Ok.seq ?_
        refine Ok.region Tryz.tok ?_
        refine Ok.wk (Wk.tab (L := [(1, (.b 1 0)), (3, (.o 21)), (4, (vi s1.1)), (7, (vi s1.1))]) (H' := [(1, .box [(.s (List.map c_api_Page p_d.Synced)), (.s (List.map c_api_Page p_d.Loose)), (vb p_d.Down)]), (21, .own 3 1 (List.map Go.Cat.encI s1.2))]) ⟨Le.refl _, Le.refl _, Le.refl _, Le.refl _, True.intro⟩ ⟨⟨_, rfl, .refl _⟩, ⟨_, rfl, .refl _⟩, True.intro⟩ rfl) ?_
        refine Ok.seq ?_
        refine Ok.region Tryz.tok ?_
        obtain ⟨x1, hx1, hv2⟩ := bindS hv2
        refine ⟨_, rfl, ?_⟩
        refine CallOk.call (w_chunk_there hx1) (LeL.refl _) ?_
        refine Ok.wk (Wk.tab (L := [(1, (.b 1 0)), (3, (.o 21)), (4, (vi s1.1)), (6, (vi x1.2)), (7, (vi s1.1))]) (H' := [(1, .box [(.s (List.map c_api_Page p_d.Synced)), (.s (List.map c_api_Page p_d.Loose)), (vb p_d.Down)]), (21, .own 3 1 (List.map Go.Cat.encI s1.2))]) ⟨Le.refl _, Le.refl _, Le.refl _, Le.refl _, Le.refl _, True.intro⟩ ⟨⟨_, rfl, .refl _⟩, ⟨_, rfl, .refl _⟩, True.intro⟩ rfl) ?_
        refine Ok.seq ?_
        refine Ok.region Tryz.tok ?_
        refine Ok.wk (Wk.tab (L := [(1, (.b 1 0)), (3, (.o 21)), (4, (vi s1.1)), (7, (vi s1.1)), (17, (vb ((x1.2 == 0))))]) (H' := [(1, .box [(.s (List.map c_api_Page p_d.Synced)), (.s (List.map c_api_Page p_d.Loose)), (vb p_d.Down)]), (21, .own 3 1 (List.map Go.Cat.encI s1.2))]) ⟨Le.refl _, Le.refl _, Le.refl _, Le.refl _, Le.refl _, True.intro⟩ ⟨⟨_, rfl, .refl _⟩, ⟨_, rfl, .refl _⟩, True.intro⟩ rfl) ?_
        refine Ok.cond (d := 17) (b := (x1.2 == 0)) rfl hv2 (fun hb hv2 => ?_) fun hb hv2 => ?_
        · refine Ok.region Tryz.tok ?_
          obtain ⟨hc1, hv2⟩ := chk_some hv2
          refine Or.inl ⟨rowsLen_map (f := Go.Cat.encI) (n := 1) (fun _ => rfl) ([s1.1]), app_b2 (f := Go.Cat.encI) (l := s1.2) (l' := ([s1.1])) hc1, _, (List.map_append (f := Go.Cat.encI) (l₁ := s1.2) (l₂ := ([s1.1]))).symm, ?_⟩
          cases hv2
          exact Wk.tab ⟨Le.refl _, Le.refl _, Le.refl _, True.intro⟩ ⟨⟨_, rfl, .refl _⟩, ⟨_, rfl, .refl _⟩, True.intro⟩ rfl
        · refine Ok.skip ?_
          cases hv2
          exact Wk.tab ⟨Le.refl _, Le.refl _, Le.refl _, True.intro⟩ ⟨⟨_, rfl, .refl _⟩, ⟨_, rfl, .refl _⟩, True.intro⟩ rfl
      refine Ok.region Tryz.tok ?_
      obtain ⟨hc2, hB1⟩ := chk_some hB1
      refine (Or.inl ⟨hc2, ?_⟩)
      exact ⟨_, (Option.some.inj hB1).symm, Wk.tab ⟨Le.refl _, Le.refl _, Le.refl _, True.intro⟩ ⟨⟨_, rfl, .refl _⟩, ⟨_, rfl, .refl _⟩, True.intro⟩ rfl⟩
    · refine Ok.exit ?_
      have hB1 := out_ret hB1 hy1
      cases hB1
      exact Wk.tab ⟨Le.refl _, True.intro⟩ ⟨⟨_, rfl, .refl _⟩, True.intro⟩ rfl
  refine Ok.seq ?_
  refine Ok.region Tryz.tok ?_
  refine Ok.wk (Wk.tab (L := [(2, (.o 21))]) (H' := [(21, .own 3 1 (List.map Go.Cat.encI v1))]) ⟨Le.refl _, True.intro⟩ ⟨⟨_, rfl, .refl _⟩, True.intro⟩ rfl) ?_
  refine Ok.ret ?_
  cases h
  exact (.inr ⟨_, rfl, rfl⟩)
theorem w_chunk_Has {p_d : api_Disk} {r : (List Int)} (h : chunk_Has p_d = some r) : Pure Tryz.prog 20 [(.a [(.s (List.map c_api_Page p_d.Synced)), (.s (List.map c_api_Page p_d.Loose)), (vb p_d.Down)])] (.s (List.map Go.Cat.encI r)) := (wo_chunk_Has h).pure

theorem wo_sweep_Gone [Off] {p_named : List api_Named} {p_rooms : List api_Room} {p_leases : List api_Lease} {p_now : Int} {p_disks : List api_Disk} {r : (List Int)} (h : sweep_Gone p_named p_rooms p_leases p_now p_disks = some r) : POwn Tryz.prog 12 [(.s (List.map c_api_Named p_named)), (.s (List.map c_api_Room p_rooms)), (.s (List.map c_api_Lease p_leases)), (vi p_now), (.s (List.map c_api_Disk p_disks))] 3 1 (List.map Go.Cat.encI r) := by
  refine pown_of_ok (n := 48) (c := (Tryz.f12.body.getD .skip)) Tryz.tok Tryz.func12 (by kernel_rfl) rfl rfl (Nat.le_of_ble_eq_true rfl) ?_
  unfold sweep_Gone at h
  refine Ok.wk (Wk.tab (L := [(0, (.s (List.map c_api_Named p_named))), (1, (.s (List.map c_api_Room p_rooms))), (2, (.s (List.map c_api_Lease p_leases))), (3, (vi p_now)), (4, (.s (List.map c_api_Disk p_disks)))]) (H' := []) ⟨Le.refl _, Le.refl _, Le.refl _, Le.refl _, Le.refl _, True.intro⟩ True.intro rfl) ?_
  refine Ok.seq ?_
  refine Ok.region Tryz.tok ?_
  refine Ok.wk (Wk.tab (L := [(0, (.s (List.map c_api_Named p_named))), (1, (.s (List.map c_api_Room p_rooms))), (2, (.s (List.map c_api_Lease p_leases))), (3, (vi p_now)), (4, (.s (List.map c_api_Disk p_disks)))]) (H' := []) ⟨Le.refl _, Le.refl _, Le.refl _, Le.refl _, Le.refl _, True.intro⟩ True.intro rfl) ?_
  refine Ok.seq ?_
  refine Ok.region Tryz.tok ?_
  obtain ⟨x1, hx1, h⟩ := bindS h
  refine CallOk.gen (m := []) (n := [(2, 999), (3, 998)]) (wg_sweep_open hx1) (.cons (Ln.imm rfl) (.cons (Ln.imm rfl) (.nil))) True.intro rfl rfl rfl ?_
  obtain ⟨x2, hx2, h⟩ := bindS h
  refine CallOk.gen (m := [(1000, 999), (1001, 998)]) (n := [(12, 997)]) (wg_sweep_kept__sweep_open_1 hx2) (.cons (Ln.imm rfl) (.cons (Ln.imm rfl) (.cons (Ln.c (.nil) (.cons (Ln.b rfl) (.cons (Ln.b rfl) (.nil)))) (.nil)))) ⟨⟨999, _, rfl, rfl, .box (.cons (Ln.imm rfl) (.nil))⟩, ⟨998, _, rfl, rfl, .box (.cons (Ln.imm rfl) (.nil))⟩, True.intro⟩ rfl rfl rfl ?_
  refine Ok.wk (Wk.tab (L := [(4, (.s (List.map c_api_Disk p_disks))), (11, (.m 997))]) (H' := [(997, .mp false (List.map (fun p => (p.1, cB p.2)) x2))]) ⟨Le.refl _, Le.refl _, True.intro⟩ ⟨⟨_, rfl, .refl _⟩, True.intro⟩ rfl) ?_
  refine Ok.seq ?_
  refine Ok.region Tryz.tok ?_
  refine Ok.wk (Wk.tab (L := [(4, (.s (List.map c_api_Disk p_disks))), (11, (.m 997)), (12, (.m 23))]) (H' := [(997, .mp false (List.map (fun p => (p.1, cB p.2)) x2)), (23, .mp false (List.map (fun p => (p.1, cB p.2)) (([] : List (Int × Bool)))))]) ⟨Le.refl _, Le.refl _, Le.refl _, True.intro⟩ ⟨⟨_, rfl, .refl _⟩, ⟨_, rfl, .refl _⟩, True.intro⟩ rfl) ?_
  obtain ⟨v1, hv1, h⟩ := bindS h
  refine Ok.seqw ⟨Cat.tab [(12, (.m 23))], [(23, .mp false (List.map (fun p => (p.1, cB p.2)) v1))]⟩ ?_ ?_
  · refine Ok.seq ?_
    refine Ok.region Tryz.tok ?_
    refine ⟨_, List.length_map _, fun _ => ?_⟩
    refine Ok.wk (Wk.tab (L := [(11, (.m 997)), (12, (.m 23)), (24, (.s (List.map c_api_Disk p_disks))), (25, (vi ((p_disks.length : Int)))), (26, (vi (0)))]) (H' := [(997, .mp false (List.map (fun p => (p.1, cB p.2)) x2)), (23, .mp false (List.map (fun p => (p.1, cB p.2)) (([] : List (Int × Bool)))))]) ⟨Le.refl _, Le.refl _, Le.refl _, Le.refl _, Le.refl _, True.intro⟩ ⟨⟨_, rfl, .refl _⟩, ⟨_, rfl, .refl _⟩, True.intro⟩ rfl) ?_
    refine Ok.block ?_
    refine Ok.loop (fun (s1 : Int × (List (Int × Bool))) => ⟨Cat.tab [(11, (.m 997)), (12, (.m 23)), (24, (.s (List.map c_api_Disk p_disks))), (25, (vi ((p_disks.length : Int)))), (26, (vi s1.1))], [(997, .mp false (List.map (fun p => (p.1, cB p.2)) x2)), (23, .mp false (List.map (fun p => (p.1, cB p.2)) s1.2))]⟩) (sweep_Gone_B1 p_disks x2) (s0 := (0, ([] : List (Int × Bool)))) hv1 (Wk.tab ⟨Le.refl _, Le.refl _, Le.refl _, Le.refl _, Le.refl _, True.intro⟩ ⟨⟨_, rfl, .refl _⟩, ⟨_, rfl, .refl _⟩, True.intro⟩ rfl) ?_
    intro s1 y1 hB1 hy1
    unfold sweep_Gone_B1 at hB1
    refine Ok.seq ?_
    refine Ok.region Tryz.tok ?_
    refine Ok.wk (Wk.tab (L := [(11, (.m 997)), (12, (.m 23)), (24, (.s (List.map c_api_Disk p_disks))), (25, (vi ((p_disks.length : Int)))), (26, (vi s1.1)), (27, (vb ((decide (s1.1 < (p_disks.length : Int))))))]) (H' := [(997, .mp false (List.map (fun p => (p.1, cB p.2)) x2)), (23, .mp false (List.map (fun p => (p.1, cB p.2)) s1.2))]) ⟨Le.refl _, Le.refl _, Le.refl _, Le.refl _, Le.refl _, Le.refl _, True.intro⟩ ⟨⟨_, rfl, .refl _⟩, ⟨_, rfl, .refl _⟩, True.intro⟩ rfl) ?_
    refine Ok.seq ?_
    refine Ok.cond (d := 27) (b := (decide (s1.1 < (p_disks.length : Int)))) rfl hB1 (fun hb hB1 => ?_) fun hb hB1 => ?_
    · refine Ok.skip ?_
      obtain ⟨v2, hv2, hB1⟩ := bindS hB1
      refine Ok.seqw ⟨Cat.tab [(11, (.m 997)), (12, (.m 23)), (24, (.s (List.map c_api_Disk p_disks))), (25, (vi ((p_disks.length : Int)))), (26, (vi s1.1))], [(997, .mp false (List.map (fun p => (p.1, cB p.2)) x2)), (23, .mp false (List.map (fun p => (p.1, cB p.2)) v2))]⟩ ?_ ?_
      · refine Ok.block ?_
        refine Ok.seq ?_
        refine Ok.region Tryz.tok ?_
        obtain ⟨x3, hx3, hv2⟩ := bindS hv2
        refine ⟨_, idx_nat hx3, _, idx_row hx3, ⟨_, rfl, ⟨_, rfl, ?_⟩⟩⟩
        refine Ok.wk (Wk.tab (L := [(11, (.m 997)), (12, (.m 23)), (14, (.b 14 0)), (24, (.s (List.map c_api_Disk p_disks))), (25, (vi ((p_disks.length : Int)))), (26, (vi s1.1))]) (H' := [(997, .mp false (List.map (fun p => (p.1, cB p.2)) x2)), (23, .mp false (List.map (fun p => (p.1, cB p.2)) s1.2)), (14, .box [(.s (List.map c_api_Page x3.Synced)), (.s (List.map c_api_Page x3.Loose)), (vb x3.Down)])]) ⟨Le.refl _, Le.refl _, Le.refl _, Le.refl _, Le.refl _, Le.refl _, True.intro⟩ ⟨⟨_, rfl, .refl _⟩, ⟨_, rfl, .refl _⟩, ⟨_, rfl, .refl _⟩, True.intro⟩ rfl) ?_
        refine Ok.seq ?_
        refine Ok.region Tryz.tok ?_
        obtain ⟨x4, hx4, hv2⟩ := bindS hv2
        refine ⟨_, rfl, ?_⟩
        refine CallOk.call (w_chunk_Has hx4) (LeL.refl _) ?_
        refine ⟨_, List.length_map _, fun _ => ?_⟩
        refine Ok.wk (Wk.tab (L := [(11, (.m 997)), (12, (.m 23)), (24, (.s (List.map c_api_Disk p_disks))), (25, (vi ((p_disks.length : Int)))), (26, (vi s1.1)), (31, (.s (List.map Go.Cat.encI x4))), (32, (vi ((x4.length : Int)))), (33, (vi (0)))]) (H' := [(997, .mp false (List.map (fun p => (p.1, cB p.2)) x2)), (23, .mp false (List.map (fun p => (p.1, cB p.2)) s1.2))]) ⟨Le.refl _, Le.refl _, Le.refl _, Le.refl _, Le.refl _, Le.refl _, Le.refl _, Le.refl _, True.intro⟩ ⟨⟨_, rfl, .refl _⟩, ⟨_, rfl, .refl _⟩, True.intro⟩ rfl) ?_
        refine Ok.block ?_
        refine Ok.loop (fun (s2 : Int × (List (Int × Bool))) => ⟨Cat.tab [(11, (.m 997)), (12, (.m 23)), (24, (.s (List.map c_api_Disk p_disks))), (25, (vi ((p_disks.length : Int)))), (26, (vi s1.1)), (31, (.s (List.map Go.Cat.encI x4))), (32, (vi ((x4.length : Int)))), (33, (vi s2.1))], [(997, .mp false (List.map (fun p => (p.1, cB p.2)) x2)), (23, .mp false (List.map (fun p => (p.1, cB p.2)) s2.2))]⟩) (sweep_Gone_B2 x4 x2) (s0 := (0, s1.2)) hv2 (Wk.tab ⟨Le.refl _, Le.refl _, Le.refl _, Le.refl _, Le.refl _, Le.refl _, Le.refl _, Le.refl _, True.intro⟩ ⟨⟨_, rfl, .refl _⟩, ⟨_, rfl, .refl _⟩, True.intro⟩ rfl) ?_
        intro s2 y2 hB2 hy2
        unfold sweep_Gone_B2 at hB2
        refine Ok.seq ?_
        refine Ok.region Tryz.tok ?_
        refine Ok.wk (Wk.tab (L := [(11, (.m 997)), (12, (.m 23)), (24, (.s (List.map c_api_Disk p_disks))), (25, (vi ((p_disks.length : Int)))), (26, (vi s1.1)), (31, (.s (List.map Go.Cat.encI x4))), (32, (vi ((x4.length : Int)))), (33, (vi s2.1)), (34, (vb ((decide (s2.1 < (x4.length : Int))))))]) (H' := [(997, .mp false (List.map (fun p => (p.1, cB p.2)) x2)), (23, .mp false (List.map (fun p => (p.1, cB p.2)) s2.2))]) ⟨Le.refl _, Le.refl _, Le.refl _, Le.refl _, Le.refl _, Le.refl _, Le.refl _, Le.refl _, Le.refl _, True.intro⟩ ⟨⟨_, rfl, .refl _⟩, ⟨_, rfl, .refl _⟩, True.intro⟩ rfl) ?_
        refine Ok.seq ?_
        refine Ok.cond (d := 34) (b := (decide (s2.1 < (x4.length : Int)))) rfl hB2 (fun hb hB2 => ?_) fun hb hB2 => ?_
        · refine Ok.skip ?_
          obtain ⟨v3, hv3, hB2⟩ := bindS hB2
          refine Ok.seqw ⟨Cat.tab [(11, (.m 997)), (12, (.m 23)), (24, (.s (List.map c_api_Disk p_disks))), (25, (vi ((p_disks.length : Int)))), (26, (vi s1.1)), (31, (.s (List.map Go.Cat.encI x4))), (32, (vi ((x4.length : Int)))), (33, (vi s2.1))], [(997, .mp false (List.map (fun p => (p.1, cB p.2)) x2)), (23, .mp false (List.map (fun p => (p.1, cB p.2)) v3))]⟩ ?_ ?_
          · refine Ok.block ?_
            refine Ok.seq ?_
            refine Ok.region Tryz.tok ?_
            obtain ⟨x5, hx5, hv3⟩ := bindS hv3
            refine ⟨_, idx_nat hx5, _, idx_row hx5, ⟨_, rfl, ?_⟩⟩
            refine Ok.wk (Wk.tab (L := [(11, (.m 997)), (12, (.m 23)), (16, (vi x5)), (24, (.s (List.map c_api_Disk p_disks))), (25, (vi ((p_disks.length : Int)))), (26, (vi s1.1)), (31, (.s (List.map Go.Cat.encI x4))), (32, (vi ((x4.length : Int)))), (33, (vi s2.1))]) (H' := [(997, .mp false (List.map (fun p => (p.1, cB p.2)) x2)), (23, .mp false (List.map (fun p => (p.1, cB p.2)) s2.2))]) ⟨Le.refl _, Le.refl _, Le.refl _, Le.refl _, Le.refl _, Le.refl _, Le.refl _, Le.refl _, Le.refl _, True.intro⟩ ⟨⟨_, rfl, .refl _⟩, ⟨_, rfl, .refl _⟩, True.intro⟩ rfl) ?_
            refine Ok.seq ?_
            refine Ok.region Tryz.tok ?_
            obtain ⟨x6, hx6, hv3⟩ := bindS hv3
            refine ⟨_, lk_val cB (z := (false : Bool)) hx6, ?_⟩
            refine Ok.wk (Wk.tab (L := [(11, (.m 997)), (12, (.m 23)), (16, (vi x5)), (24, (.s (List.map c_api_Disk p_disks))), (25, (vi ((p_disks.length : Int)))), (26, (vi s1.1)), (31, (.s (List.map Go.Cat.encI x4))), (32, (vi ((x4.length : Int)))), (33, (vi s2.1)), (40, (vb ((!x6))))]) (H' := [(997, .mp false (List.map (fun p => (p.1, cB p.2)) x2)), (23, .mp false (List.map (fun p => (p.1, cB p.2)) s2.2))]) ⟨Le.refl _, Le.refl _, Le.refl _, Le.refl _, Le.refl _, Le.refl _, Le.refl _, Le.refl _, Le.refl _, Le.refl _, True.intro⟩ ⟨⟨_, rfl, .refl _⟩, ⟨_, rfl, .refl _⟩, True.intro⟩ rfl) ?_
            refine Ok.cond (d := 40) (b := (!x6)) rfl hv3 (fun hb hv3 => ?_) fun hb hv3 => ?_
            · refine Ok.region Tryz.tok ?_
              obtain ⟨hc1, hv3⟩ := chk_some hv3
              refine ⟨hc1.1, Nat.lt_of_le_of_lt (Nat.le_of_eq (List.length_map _)) hc1.2, _, mset_map cB x5 true s2.2, ?_⟩
              cases hv3
              exact Wk.tab ⟨Le.refl _, Le.refl _, Le.refl _, Le.refl _, Le.refl _, Le.refl _, Le.refl _, Le.refl _, True.intro⟩ ⟨⟨_, rfl, .refl _⟩, ⟨_, rfl, .refl _⟩, True.intro⟩ rfl
            · refine Ok.skip ?_
              cases hv3
              exact Wk.tab ⟨Le.refl _, Le.refl _, Le.refl _, Le.refl _, Le.refl _, Le.refl _, Le.refl _, Le.refl _, True.intro⟩ ⟨⟨_, rfl, .refl _⟩, ⟨_, rfl, .refl _⟩, True.intro⟩ rfl
          refine Ok.region Tryz.tok ?_
          obtain ⟨hc2, hB2⟩ := chk_some hB2
          refine (Or.inl ⟨hc2, ?_⟩)
          exact ⟨_, (Option.some.inj hB2).symm, Wk.tab ⟨Le.refl _, Le.refl _, Le.refl _, Le.refl _, Le.refl _, Le.refl _, Le.refl _, Le.refl _, True.intro⟩ ⟨⟨_, rfl, .refl _⟩, ⟨_, rfl, .refl _⟩, True.intro⟩ rfl⟩
        · refine Ok.exit ?_
          have hB2 := out_ret hB2 hy2
          cases hB2
          exact Wk.tab ⟨Le.refl _, Le.refl _, Le.refl _, Le.refl _, Le.refl _, True.intro⟩ ⟨⟨_, rfl, .refl _⟩, ⟨_, rfl, .refl _⟩, True.intro⟩ rfl
      refine Ok.region Tryz.tok ?_
      obtain ⟨hc3, hB1⟩ := chk_some hB1
      refine (Or.inl ⟨hc3, ?_⟩)
      exact ⟨_, (Option.some.inj hB1).symm, Wk.tab ⟨Le.refl _, Le.refl _, Le.refl _, Le.refl _, Le.refl _, True.intro⟩ ⟨⟨_, rfl, .refl _⟩, ⟨_, rfl, .refl _⟩, True.intro⟩ rfl⟩
    · refine Ok.exit ?_
      have hB1 := out_ret hB1 hy1
      cases hB1
      exact Wk.tab ⟨Le.refl _, True.intro⟩ ⟨⟨_, rfl, .refl _⟩, True.intro⟩ rfl
  refine Ok.seq ?_
  refine Ok.region Tryz.tok ?_
  refine CallOk.keys (D := 46) Tryz.keysS30 Tryz.enters30 rfl rfl rfl ?_
  obtain ⟨hc4, h⟩ := chk_some h
  obtain ⟨x7, hx7, h⟩ := bindS h
  refine CallOk.sortedKeys (D := 46) (D2 := 47) Tryz.sortedS29_56 Tryz.enters29 rfl rfl (klen hc4) (ksort hx7) rfl ?_
  refine Ok.wk (Wk.tab (L := [(10, (.o 47))]) (H' := [(47, .own 3 1 (List.map Go.Cat.encI x7))]) ⟨Le.refl _, True.intro⟩ ⟨⟨_, rfl, .refl _⟩, True.intro⟩ rfl) ?_
  refine Ok.ret ?_
  cases h
  exact (.inr ⟨_, rfl, rfl⟩)
theorem w_sweep_Gone [Off] {p_named : List api_Named} {p_rooms : List api_Room} {p_leases : List api_Lease} {p_now : Int} {p_disks : List api_Disk} {r : (List Int)} (h : sweep_Gone p_named p_rooms p_leases p_now p_disks = some r) : Pure Tryz.prog 12 [(.s (List.map c_api_Named p_named)), (.s (List.map c_api_Room p_rooms)), (.s (List.map c_api_Lease p_leases)), (vi p_now), (.s (List.map c_api_Disk p_disks))] (.s (List.map Go.Cat.encI r)) := (wo_sweep_Gone h).pure

theorem w_chunk_Lose {p_d : api_Disk} {p_id : Int} {r : api_Disk × Int} (h : chunk_Lose p_d p_id = some r) : Pure Tryz.prog 47 [(.a [(.s (List.map c_api_Page p_d.Synced)), (.s (List.map c_api_Page p_d.Loose)), (vb p_d.Down)]), (vi p_id)] (.t [(.a [(.s (List.map c_api_Page r.1.Synced)), (.s (List.map c_api_Page r.1.Loose)), (vb r.1.Down)]), (vi r.2)]) := by
  refine pure_of_ok (n := 23) (c := (Tryz.f47.body.getD .skip)) Tryz.tok Tryz.func47 (by kernel_rfl) rfl rfl (Nat.le_of_ble_eq_true rfl) ?_
  unfold chunk_Lose at h
  refine Ok.wk (Wk.tab (L := [(0, (.a [(.s (List.map c_api_Page p_d.Synced)), (.s (List.map c_api_Page p_d.Loose)), (vb p_d.Down)])), (1, (vi p_id))]) (H' := []) ⟨Le.refl _, Le.refl _, True.intro⟩ True.intro rfl) ?_
  refine Ok.seq ?_
  refine Ok.region Tryz.tok ?_
  refine Ok.wk (Wk.tab (L := [(1, (vi p_id)), (2, (.b 2 0)), (4, (.b 4 0))]) (H' := [(2, .box [(.s (List.map c_api_Page p_d.Synced)), (.s (List.map c_api_Page p_d.Loose)), (vb p_d.Down)]), (4, .box [(.v (.slice none 0 0)), (.v (.slice none 0 0)), (vb false)])]) ⟨Le.refl _, Le.refl _, Le.refl _, True.intro⟩ ⟨⟨_, rfl, .refl _⟩, ⟨_, rfl, .refl _⟩, True.intro⟩ rfl) ?_
  refine Ok.seq ?_
  refine Ok.seq ?_
  refine Ok.region Tryz.tok ?_
  obtain ⟨x1, hx1, h⟩ := bindS h
  refine ⟨_, rfl, ?_⟩
  refine CallOk.call (w_chunk_there hx1) (LeL.refl _) ?_
  refine Ok.wk (Wk.tab (L := [(1, (vi p_id)), (2, (.b 2 0)), (4, (.b 4 0)), (7, (vi x1.2))]) (H' := [(2, .box [(.s (List.map c_api_Page p_d.Synced)), (.s (List.map c_api_Page p_d.Loose)), (vb p_d.Down)]), (4, .box [(.v (.slice none 0 0)), (.v (.slice none 0 0)), (vb false)])]) ⟨Le.refl _, Le.refl _, Le.refl _, Le.refl _, True.intro⟩ ⟨⟨_, rfl, .refl _⟩, ⟨_, rfl, .refl _⟩, True.intro⟩ rfl) ?_
  refine Ok.seq ?_
  refine Ok.region Tryz.tok ?_
  refine Ok.wk (Wk.tab (L := [(1, (vi p_id)), (2, (.b 2 0)), (4, (.b 4 0)), (7, (vi x1.2)), (15, (vb ((x1.2 != 0))))]) (H' := [(2, .box [(.s (List.map c_api_Page p_d.Synced)), (.s (List.map c_api_Page p_d.Loose)), (vb p_d.Down)]), (4, .box [(.v (.slice none 0 0)), (.v (.slice none 0 0)), (vb false)])]) ⟨Le.refl _, Le.refl _, Le.refl _, Le.refl _, Le.refl _, True.intro⟩ ⟨⟨_, rfl, .refl _⟩, ⟨_, rfl, .refl _⟩, True.intro⟩ rfl) ?_
  refine Ok.cond (d := 15) (b := (x1.2 != 0)) rfl h (fun hb h => ?_) fun hb h => ?_
  · refine Ok.seq ?_
    refine Ok.region Tryz.tok ?_
    refine ⟨_, rfl, ⟨_, rfl, ?_⟩⟩
    refine Ok.wk (Wk.tab (L := [(4, (.b 4 0)), (5, (vi x1.2))]) (H' := [(4, .box [(.s (List.map c_api_Page p_d.Synced)), (.s (List.map c_api_Page p_d.Loose)), (vb p_d.Down)])]) ⟨Le.refl _, Le.refl _, True.intro⟩ ⟨⟨_, rfl, .refl _⟩, True.intro⟩ rfl) ?_
    refine Ok.ret ?_
    cases h
    exact ⟨_, rfl, (Fz.t (.cons (Fz.imm rfl) (.cons Fz.v .nil)))⟩
  · refine Ok.skip ?_
    refine Ok.seq ?_
    refine Ok.region Tryz.tok ?_
    obtain ⟨x2, hx2, h⟩ := bindS h
    refine ⟨_, rfl, ?_⟩
    refine CallOk.call (w_disk_Write hx2) (.cons (Le.refl _) (.cons (Le.refl _) (.cons (Le.nil) (.nil)))) ?_
    refine ⟨_, rfl, ?_⟩
    refine Ok.wk (Wk.tab (L := [(4, (.b 4 0)), (5, (vi x2.2))]) (H' := [(4, .box [(.s (List.map c_api_Page x2.1.Synced)), (.s (List.map c_api_Page x2.1.Loose)), (vb x2.1.Down)])]) ⟨Le.refl _, Le.refl _, True.intro⟩ ⟨⟨_, rfl, .refl _⟩, True.intro⟩ rfl) ?_
    refine Ok.ret ?_
    cases h
    exact ⟨_, rfl, (Fz.t (.cons (Fz.imm rfl) (.cons Fz.v .nil)))⟩

theorem wg_sweep_swept [Off] {p_d : api_Disk} {p_h0 : List (Int × Bool)} {r : (List api_Page) × (List api_Page) × Bool} (h : sweep_swept p_d p_h0 = some r) : CallOk Tryz.prog 22 [(.a [(.s (List.map c_api_Page p_d.Synced)), (.s (List.map c_api_Page p_d.Loose)), (vb p_d.Down)]), (.m 1000)] ⟨noSlots, [(1000, .mp false (List.map (fun p => (p.1, cB p.2)) p_h0))]⟩ fun x s => x = (.a [(.s (List.map c_api_Page r.1)), (.s (List.map c_api_Page r.2.1)), (vb r.2.2)]) ∧ s.H = [(1000, .mp false (List.map (fun p => (p.1, cB p.2)) p_h0))] := by
  refine pgen_of_ok (n := 34) (c := (Tryz.f22.body.getD .skip)) Tryz.tok Tryz.func22 (by kernel_rfl) rfl rfl (Nat.le_of_ble_eq_true rfl) ?_
  unfold sweep_swept at h
  refine Ok.wk (Wk.tab (L := [(0, (.a [(.s (List.map c_api_Page p_d.Synced)), (.s (List.map c_api_Page p_d.Loose)), (vb p_d.Down)])), (1, (.m 1000))]) (H' := [(1000, .mp false (List.map (fun p => (p.1, cB p.2)) p_h0))]) ⟨Le.refl _, Le.refl _, True.intro⟩ ⟨⟨_, rfl, .refl _⟩, True.intro⟩ rfl) ?_
  refine Ok.seq ?_
  refine Ok.region Tryz.tok ?_
  refine Ok.wk (Wk.tab (L := [(1, (.m 1000)), (2, (.b 2 0)), (4, (.b 4 0))]) (H' := [(1000, .mp false (List.map (fun p => (p.1, cB p.2)) p_h0)), (2, .box [(.s (List.map c_api_Page p_d.Synced)), (.s (List.map c_api_Page p_d.Loose)), (vb p_d.Down)]), (4, .box [(.v (.slice none 0 0)), (.v (.slice none 0 0)), (vb false)])]) ⟨Le.refl _, Le.refl _, Le.refl _, True.intro⟩ ⟨⟨_, rfl, .refl _⟩, ⟨_, rfl, .refl _⟩, ⟨_, rfl, .refl _⟩, True.intro⟩ rfl) ?_
  refine Ok.seq ?_
  refine Ok.region Tryz.tok ?_
  refine ⟨_, rfl, ⟨_, rfl, ?_⟩⟩
  refine Ok.wk (Wk.tab (L := [(1, (.m 1000)), (2, (.b 2 0)), (4, (.b 4 0)), (5, (.b 5 0)), (6, (vb false))]) (H' := [(1000, .mp false (List.map (fun p => (p.1, cB p.2)) p_h0)), (2, .box [(.s (List.map c_api_Page p_d.Synced)), (.s (List.map c_api_Page p_d.Loose)), (vb p_d.Down)]), (4, .box [(.v (.slice none 0 0)), (.v (.slice none 0 0)), (vb false)]), (5, .box [(.s (List.map c_api_Page p_d.Synced)), (.s (List.map c_api_Page p_d.Loose)), (vb p_d.Down)])]) ⟨Le.refl _, Le.refl _, Le.refl _, Le.refl _, Le.refl _, True.intro⟩ ⟨⟨_, rfl, .refl _⟩, ⟨_, rfl, .refl _⟩, ⟨_, rfl, .refl _⟩, ⟨_, rfl, .refl _⟩, True.intro⟩ rfl) ?_
  obtain ⟨v1, hv1, h⟩ := bindS h
  refine Ok.seqw ⟨Cat.tab [(4, (.b 4 0)), (5, (.b 5 0)), (6, (vb v1.1))], [(4, .box [(.v (.slice none 0 0)), (.v (.slice none 0 0)), (vb false)]), (5, .box [(.s (List.map c_api_Page v1.2.1)), (.s (List.map c_api_Page v1.2.2.1)), (vb v1.2.2.2)]), (1000, .mp false (List.map (fun p => (p.1, cB p.2)) p_h0))]⟩ ?_ ?_
  · refine Ok.seq ?_
    refine Ok.region Tryz.tok ?_
    obtain ⟨x1, hx1, hv1⟩ := bindS hv1
    refine ⟨_, rfl, ?_⟩
    refine CallOk.call (w_chunk_Has hx1) (LeL.refl _) ?_
    refine ⟨_, List.length_map _, fun _ => ?_⟩
    refine Ok.wk (Wk.tab (L := [(1, (.m 1000)), (4, (.b 4 0)), (5, (.b 5 0)), (6, (vb false)), (11, (.s (List.map Go.Cat.encI x1))), (12, (vi ((x1.length : Int)))), (13, (vi (0)))]) (H' := [(1000, .mp false (List.map (fun p => (p.1, cB p.2)) p_h0)), (4, .box [(.v (.slice none 0 0)), (.v (.slice none 0 0)), (vb false)]), (5, .box [(.s (List.map c_api_Page p_d.Synced)), (.s (List.map c_api_Page p_d.Loose)), (vb p_d.Down)])]) ⟨Le.refl _, Le.refl _, Le.refl _, Le.refl _, Le.refl _, Le.refl _, Le.refl _, True.intro⟩ ⟨⟨_, rfl, .refl _⟩, ⟨_, rfl, .refl _⟩, ⟨_, rfl, .refl _⟩, True.intro⟩ rfl) ?_
    refine Ok.block ?_
    refine Ok.loop (fun (s1 : Bool × Int × (List api_Page) × (List api_Page) × Bool) => ⟨Cat.tab [(1, (.m 1000)), (4, (.b 4 0)), (5, (.b 5 0)), (6, (vb s1.1)), (11, (.s (List.map Go.Cat.encI x1))), (12, (vi ((x1.length : Int)))), (13, (vi s1.2.1))], [(1000, .mp false (List.map (fun p => (p.1, cB p.2)) p_h0)), (4, .box [(.v (.slice none 0 0)), (.v (.slice none 0 0)), (vb false)]), (5, .box [(.s (List.map c_api_Page s1.2.2.1)), (.s (List.map c_api_Page s1.2.2.2.1)), (vb s1.2.2.2.2)])]⟩) (sweep_swept_B1 x1 p_h0) (s0 := (false, 0, p_d.Synced, p_d.Loose, p_d.Down)) hv1 (Wk.tab ⟨Le.refl _, Le.refl _, Le.refl _, Le.refl _, Le.refl _, Le.refl _, Le.refl _, True.intro⟩ ⟨⟨_, rfl, .refl _⟩, ⟨_, rfl, .refl _⟩, ⟨_, rfl, .refl _⟩, True.intro⟩ rfl) ?_
    intro s1 y1 hB1 hy1
    unfold sweep_swept_B1 at hB1
    refine Ok.seq ?_
    refine Ok.region Tryz.tok ?_
    refine Ok.wk (Wk.tab (L := [(1, (.m 1000)), (4, (.b 4 0)), (5, (.b 5 0)), (6, (vb s1.1)), (11, (.s (List.map Go.Cat.encI x1))), (12, (vi ((x1.length : Int)))), (13, (vi s1.2.1)), (14, (vb ((decide (s1.2.1 < (x1.length : Int))))))]) (H' := [(1000, .mp false (List.map (fun p => (p.1, cB p.2)) p_h0)), (4, .box [(.v (.slice none 0 0)), (.v (.slice none 0 0)), (vb false)]), (5, .box [(.s (List.map c_api_Page s1.2.2.1)), (.s (List.map c_api_Page s1.2.2.2.1)), (vb s1.2.2.2.2)])]) ⟨Le.refl _, Le.refl _, Le.refl _, Le.refl _, Le.refl _, Le.refl _, Le.refl _, Le.refl _, True.intro⟩ ⟨⟨_, rfl, .refl _⟩, ⟨_, rfl, .refl _⟩, ⟨_, rfl, .refl _⟩, True.intro⟩ rfl) ?_
    refine Ok.seq ?_
    refine Ok.cond (d := 14) (b := (decide (s1.2.1 < (x1.length : Int)))) rfl hB1 (fun hb hB1 => ?_) fun hb hB1 => ?_
    · refine Ok.skip ?_
      obtain ⟨v2, hv2, hB1⟩ := bindS hB1
      refine Ok.seqw ⟨Cat.tab [(1, (.m 1000)), (4, (.b 4 0)), (5, (.b 5 0)), (6, (vb v2.1)), (11, (.s (List.map Go.Cat.encI x1))), (12, (vi ((x1.length : Int)))), (13, (vi s1.2.1))], [(1000, .mp false (List.map (fun p => (p.1, cB p.2)) p_h0)), (4, .box [(.v (.slice none 0 0)), (.v (.slice none 0 0)), (vb false)]), (5, .box [(.s (List.map c_api_Page v2.2.1)), (.s (List.map c_api_Page v2.2.2.1)), (vb v2.2.2.2)])]⟩ ?_ ?_
      · refine Ok.block ?_
        refine Ok.seq ?_
        refine Ok.region Tryz.tok ?_
        obtain ⟨x2, hx2, hv2⟩ := bindS hv2
        refine ⟨_, idx_nat hx2, _, idx_row hx2, ⟨_, rfl, ?_⟩⟩
        refine Ok.wk (Wk.tab (L := [(1, (.m 1000)), (4, (.b 4 0)), (5, (.b 5 0)), (6, (vb s1.1)), (8, (vi x2)), (11, (.s (List.map Go.Cat.encI x1))), (12, (vi ((x1.length : Int)))), (13, (vi s1.2.1))]) (H' := [(1000, .mp false (List.map (fun p => (p.1, cB p.2)) p_h0)), (4, .box [(.v (.slice none 0 0)), (.v (.slice none 0 0)), (vb false)]), (5, .box [(.s (List.map c_api_Page s1.2.2.1)), (.s (List.map c_api_Page s1.2.2.2.1)), (vb s1.2.2.2.2)])]) ⟨Le.refl _, Le.refl _, Le.refl _, Le.refl _, Le.refl _, Le.refl _, Le.refl _, Le.refl _, True.intro⟩ ⟨⟨_, rfl, .refl _⟩, ⟨_, rfl, .refl _⟩, ⟨_, rfl, .refl _⟩, True.intro⟩ rfl) ?_
        refine Ok.seq ?_
        refine Ok.region Tryz.tok ?_
        obtain ⟨x3, hx3, hv2⟩ := bindS hv2
        refine ⟨_, lk_val cB (z := (false : Bool)) hx3, ?_⟩
        refine Ok.wk (Wk.tab (L := [(1, (.m 1000)), (4, (.b 4 0)), (5, (.b 5 0)), (6, (vb s1.1)), (8, (vi x2)), (11, (.s (List.map Go.Cat.encI x1))), (12, (vi ((x1.length : Int)))), (13, (vi s1.2.1)), (19, (vb x3))]) (H' := [(1000, .mp false (List.map (fun p => (p.1, cB p.2)) p_h0)), (4, .box [(.v (.slice none 0 0)), (.v (.slice none 0 0)), (vb false)]), (5, .box [(.s (List.map c_api_Page s1.2.2.1)), (.s (List.map c_api_Page s1.2.2.2.1)), (vb s1.2.2.2.2)])]) ⟨Le.refl _, Le.refl _, Le.refl _, Le.refl _, Le.refl _, Le.refl _, Le.refl _, Le.refl _, Le.refl _, True.intro⟩ ⟨⟨_, rfl, .refl _⟩, ⟨_, rfl, .refl _⟩, ⟨_, rfl, .refl _⟩, True.intro⟩ rfl) ?_
        refine Ok.cond (d := 19) (b := x3) rfl hv2 (fun hb hv2 => ?_) fun hb hv2 => ?_
        · refine Ok.seq ?_
          refine Ok.region Tryz.tok ?_
          obtain ⟨x4, hx4, hv2⟩ := bindS hv2
          refine ⟨_, rfl, ?_⟩
          refine CallOk.call (w_chunk_Lose hx4) (LeL.refl _) ?_
          refine ⟨_, rfl, ?_⟩
          refine Ok.wk (Wk.tab (L := [(1, (.m 1000)), (4, (.b 4 0)), (5, (.b 5 0)), (11, (.s (List.map Go.Cat.encI x1))), (12, (vi ((x1.length : Int)))), (13, (vi s1.2.1))]) (H' := [(1000, .mp false (List.map (fun p => (p.1, cB p.2)) p_h0)), (4, .box [(.v (.slice none 0 0)), (.v (.slice none 0 0)), (vb false)]), (5, .box [(.s (List.map c_api_Page x4.1.Synced)), (.s (List.map c_api_Page x4.1.Loose)), (vb x4.1.Down)])]) ⟨Le.refl _, Le.refl _, Le.refl _, Le.refl _, Le.refl _, Le.refl _, True.intro⟩ ⟨⟨_, rfl, .refl _⟩, ⟨_, rfl, .refl _⟩, ⟨_, rfl, .refl _⟩, True.intro⟩ rfl) ?_
          refine Ok.region Tryz.tok ?_
          cases hv2
          exact Wk.tab ⟨Le.refl _, Le.refl _, Le.refl _, Le.refl _, Le.refl _, Le.refl _, Le.refl _, True.intro⟩ ⟨⟨_, rfl, .refl _⟩, ⟨_, rfl, .refl _⟩, ⟨_, rfl, .refl _⟩, True.intro⟩ rfl
        · refine Ok.skip ?_
          cases hv2
          exact Wk.tab ⟨Le.refl _, Le.refl _, Le.refl _, Le.refl _, Le.refl _, Le.refl _, Le.refl _, True.intro⟩ ⟨⟨_, rfl, .refl _⟩, ⟨_, rfl, .refl _⟩, ⟨_, rfl, .refl _⟩, True.intro⟩ rfl
      refine Ok.region Tryz.tok ?_
      obtain ⟨hc1, hB1⟩ := chk_some hB1
      refine (Or.inl ⟨hc1, ?_⟩)
      exact ⟨_, (Option.some.inj hB1).symm, Wk.tab ⟨Le.refl _, Le.refl _, Le.refl _, Le.refl _, Le.refl _, Le.refl _, Le.refl _, True.intro⟩ ⟨⟨_, rfl, .refl _⟩, ⟨_, rfl, .refl _⟩, ⟨_, rfl, .refl _⟩, True.intro⟩ rfl⟩
    · refine Ok.exit ?_
      have hB1 := out_ret hB1 hy1
      cases hB1
      exact Wk.tab ⟨Le.refl _, Le.refl _, Le.refl _, True.intro⟩ ⟨⟨_, rfl, .refl _⟩, ⟨_, rfl, .refl _⟩, ⟨_, rfl, .refl _⟩, True.intro⟩ rfl
  obtain ⟨v3, hv3, h⟩ := bindS h
  refine Ok.seqw ⟨Cat.tab [(4, (.b 4 0)), (5, (.b 5 0))], [(4, .box [(.v (.slice none 0 0)), (.v (.slice none 0 0)), (vb false)]), (5, .box [(.s (List.map c_api_Page v3.1)), (.s (List.map c_api_Page v3.2.1)), (vb v3.2.2)]), (1000, .mp false (List.map (fun p => (p.1, cB p.2)) p_h0))]⟩ ?_ ?_
  · refine Ok.seq ?_
    refine Ok.region Tryz.tok ?_
    refine Ok.wk (Wk.tab (L := [(4, (.b 4 0)), (5, (.b 5 0)), (27, (vb v1.1))]) (H' := [(4, .box [(.v (.slice none 0 0)), (.v (.slice none 0 0)), (vb false)]), (5, .box [(.s (List.map c_api_Page v1.2.1)), (.s (List.map c_api_Page v1.2.2.1)), (vb v1.2.2.2)]), (1000, .mp false (List.map (fun p => (p.1, cB p.2)) p_h0))]) ⟨Le.refl _, Le.refl _, Le.refl _, True.intro⟩ ⟨⟨_, rfl, .refl _⟩, ⟨_, rfl, .refl _⟩, ⟨_, rfl, .refl _⟩, True.intro⟩ rfl) ?_
    refine Ok.cond (d := 27) (b := v1.1) rfl hv3 (fun hb hv3 => ?_) fun hb hv3 => ?_
    · refine Ok.region Tryz.tok ?_
      obtain ⟨x5, hx5, hv3⟩ := bindS hv3
      refine ⟨_, rfl, ?_⟩
      refine CallOk.call (w_disk_Sync hx5) (LeL.refl _) ?_
      refine ⟨_, rfl, ?_⟩
      cases hv3
      exact Wk.tab ⟨Le.refl _, Le.refl _, True.intro⟩ ⟨⟨_, rfl, .refl _⟩, ⟨_, rfl, .refl _⟩, ⟨_, rfl, .refl _⟩, True.intro⟩ rfl
    · refine Ok.skip ?_
      cases hv3
      exact Wk.tab ⟨Le.refl _, Le.refl _, True.intro⟩ ⟨⟨_, rfl, .refl _⟩, ⟨_, rfl, .refl _⟩, ⟨_, rfl, .refl _⟩, True.intro⟩ rfl
  refine Ok.seq ?_
  refine Ok.region Tryz.tok ?_
  refine ⟨_, rfl, ⟨_, rfl, ?_⟩⟩
  refine Ok.wk (Wk.tab (L := [(4, (.b 4 0))]) (H' := [(4, .box [(.s (List.map c_api_Page v3.1)), (.s (List.map c_api_Page v3.2.1)), (vb v3.2.2)]), (1000, .mp false (List.map (fun p => (p.1, cB p.2)) p_h0))]) ⟨Le.refl _, True.intro⟩ ⟨⟨_, rfl, .refl _⟩, ⟨_, rfl, .refl _⟩, True.intro⟩ rfl) ?_
  refine Ok.ret ?_
  cases h
  exact ⟨_, rfl, Wk.tab ⟨Le.refl _, True.intro⟩ ⟨⟨_, rfl, .refl _⟩, True.intro⟩ rfl⟩

theorem wo_slices_Clone_api_Room_api_Room {p_s : List api_Room} {r : (List api_Room)} (h : slices_Clone_api_Room_api_Room p_s = some r) : POwn Tryz.prog 26 [(.s (List.map c_api_Room p_s))] 42 3 (List.map c_api_Room r) := by
  refine pown_of_ok (n := 8) (c := (Tryz.f26.body.getD .skip)) Tryz.tok Tryz.func26 (by kernel_rfl) rfl rfl (Nat.le_of_ble_eq_true rfl) ?_
  unfold slices_Clone_api_Room_api_Room at h
  refine Ok.wk (Wk.tab (L := [(0, (.s (List.map c_api_Room p_s)))]) (H' := []) ⟨Le.refl _, True.intro⟩ True.intro rfl) ?_
  refine Ok.seq ?_
  refine Ok.region Tryz.tok ?_
  refine Ok.wk (Wk.tab (L := [(0, (.s (List.map c_api_Room p_s)))]) (H' := []) ⟨Le.refl _, True.intro⟩ True.intro rfl) ?_
  refine Ok.seq ?_
  refine Ok.seq ?_
  refine Ok.region Tryz.tok ?_
  intro b1 hb1
  have h := anyOf_some h b1 (fun e => List.map_eq_nil_iff.1 (hb1 e))
  refine Ok.wk (Wk.tab (L := [(0, (.s (List.map c_api_Room p_s))), (4, (vb b1))]) (H' := []) ⟨Le.refl _, Le.refl _, True.intro⟩ True.intro rfl) ?_
  refine Ok.cond (d := 4) (b := b1) rfl h (fun hb h => ?_) fun hb h => ?_
  · refine Ok.seq ?_
    refine Ok.region Tryz.tok ?_
    refine Ok.wk (Wk.tab (L := [(2, (.v (.slice none 0 0)))]) (H' := []) ⟨Le.refl _, True.intro⟩ True.intro rfl) ?_
    refine Ok.ret ?_
    cases h
    exact (.inl ⟨rfl, rfl⟩)
  · refine Ok.skip ?_
    refine Ok.seq ?_
    refine Ok.region Tryz.tok ?_
    obtain ⟨hc1, h⟩ := chk_some h
    refine Or.inr ⟨rowsLen_map (f := c_api_Room) (n := 3) (fun _ => rfl) p_s, app_b2 (f := c_api_Room) (l := (([] : List api_Room))) (l' := p_s) hc1, _, (List.map_append (f := c_api_Room) (l₁ := (([] : List api_Room))) (l₂ := p_s)).symm, ?_⟩
    refine Ok.wk (Wk.tab (L := [(2, (.o 5))]) (H' := [(5, .own 42 3 (List.map c_api_Room ((([] : List api_Room) ++ p_s))))]) ⟨Le.refl _, True.intro⟩ ⟨⟨_, rfl, .refl _⟩, True.intro⟩ rfl) ?_
    refine Ok.ret ?_
    cases h
    exact (.inr ⟨_, rfl, rfl⟩)
theorem w_slices_Clone_api_Room_api_Room {p_s : List api_Room} {r : (List api_Room)} (h : slices_Clone_api_Room_api_Room p_s = some r) : Pure Tryz.prog 26 [(.s (List.map c_api_Room p_s))] (.s (List.map c_api_Room r)) := (wo_slices_Clone_api_Room_api_Room h).pure

theorem wg_sweep_Sweep_1 {p_r : api_Room} {p_b1 : List api_Lease} {p_b2 : Int} {r : Bool} (h : sweep_Sweep_1 p_r p_b1 p_b2 = some r) : CallOk Tryz.prog 24 [(.a [(vi p_r.Id), (vi p_r.Ino), (vi p_r.Client)]), (.b 1000 0)] ⟨noSlots, [(1000, .box [(.c (.func 48) [] [(.b 1001 0), (.b 1002 0)])]), (1001, .box [(.s (List.map c_api_Lease p_b1))]), (1002, .box [(vi p_b2)])]⟩ fun x s => x = (vb r) ∧ s.H = [(1000, .box [(.c (.func 48) [] [(.b 1001 0), (.b 1002 0)])]), (1001, .box [(.s (List.map c_api_Lease p_b1))]), (1002, .box [(vi p_b2)])] := by
  refine pgen_of_ok (n := 8) (c := (Tryz.f24.body.getD .skip)) Tryz.tok Tryz.func24 (by kernel_rfl) rfl rfl (Nat.le_of_ble_eq_true rfl) ?_
  unfold sweep_Sweep_1 at h
  refine Ok.wk (Wk.tab (L := [(0, (.a [(vi p_r.Id), (vi p_r.Ino), (vi p_r.Client)])), (1, (.b 1000 0))]) (H' := [(1000, .box [(.c (.func 48) [] [(.b 1001 0), (.b 1002 0)])]), (1001, .box [(.s (List.map c_api_Lease p_b1))]), (1002, .box [(vi p_b2)])]) ⟨Le.refl _, Le.refl _, True.intro⟩ ⟨⟨_, rfl, .refl _⟩, ⟨_, rfl, .refl _⟩, ⟨_, rfl, .refl _⟩, True.intro⟩ rfl) ?_
  refine Ok.seq ?_
  refine Ok.region Tryz.tok ?_
  refine Ok.wk (Wk.tab (L := [(1, (.b 1000 0)), (2, (.b 2 0))]) (H' := [(1000, .box [(.c (.func 48) [] [(.b 1001 0), (.b 1002 0)])]), (1001, .box [(.s (List.map c_api_Lease p_b1))]), (1002, .box [(vi p_b2)]), (2, .box [(vi p_r.Id), (vi p_r.Ino), (vi p_r.Client)])]) ⟨Le.refl _, Le.refl _, True.intro⟩ ⟨⟨_, rfl, .refl _⟩, ⟨_, rfl, .refl _⟩, ⟨_, rfl, .refl _⟩, ⟨_, rfl, .refl _⟩, True.intro⟩ rfl) ?_
  refine Ok.seq ?_
  refine Ok.region Tryz.tok ?_
  obtain ⟨x1, hx1, h⟩ := bindS h
  refine ⟨_, rfl, ⟨_, rfl, ?_⟩⟩
  refine CallOk.borrow (w_sweep_open_1 hx1) (.cons (Fz.a (.cons Fz.v (.cons Fz.v (.cons Fz.v .nil)))) (.cons (Fz.b rfl rfl) (.cons (Fz.b rfl rfl) (.nil)))) rfl ?_
  refine Ok.wk (Wk.tab (L := [(3, (vb ((!x1))))]) (H' := [(1000, .box [(.c (.func 48) [] [(.b 1001 0), (.b 1002 0)])]), (1001, .box [(.s (List.map c_api_Lease p_b1))]), (1002, .box [(vi p_b2)])]) ⟨Le.refl _, True.intro⟩ ⟨⟨_, rfl, .refl _⟩, ⟨_, rfl, .refl _⟩, ⟨_, rfl, .refl _⟩, True.intro⟩ rfl) ?_
  refine Ok.ret ?_
  cases h
  exact Wk.tab ⟨Le.refl _, True.intro⟩ ⟨⟨_, rfl, .refl _⟩, ⟨_, rfl, .refl _⟩, ⟨_, rfl, .refl _⟩, True.intro⟩ rfl

theorem wg_slices_IndexFunc_api_Room_api_Room__sweep_Sweep_1 {p_s : List api_Room} {p_b1 : List api_Lease} {p_b2 : Int} {r : Int} (h : slices_IndexFunc_api_Room_api_Room__sweep_Sweep_1 p_s p_b1 p_b2 = some r) : CallOk Tryz.prog 51 [(.s (List.map c_api_Room p_s)), (.c (.func 24) [] [(.b 1000 0)])] ⟨noSlots, [(1000, .box [(.c (.func 48) [] [(.b 1001 0), (.b 1002 0)])]), (1001, .box [(.s (List.map c_api_Lease p_b1))]), (1002, .box [(vi p_b2)])]⟩ fun x s => x = (vi r) ∧ s.H = [(1000, .box [(.c (.func 48) [] [(.b 1001 0), (.b 1002 0)])]), (1001, .box [(.s (List.map c_api_Lease p_b1))]), (1002, .box [(vi p_b2)])] := by
  refine pgen_of_ok (n := 19) (c := (Tryz.f51.body.getD .skip)) Tryz.tok Tryz.func51 (by kernel_rfl) rfl rfl (Nat.le_of_ble_eq_true rfl) ?_
  unfold slices_IndexFunc_api_Room_api_Room__sweep_Sweep_1 at h
  refine Ok.wk (Wk.tab (L := [(0, (.s (List.map c_api_Room p_s))), (1, (.c (.func 24) [] [(.b 1000 0)]))]) (H' := [(1000, .box [(.c (.func 48) [] [(.b 1001 0), (.b 1002 0)])]), (1001, .box [(.s (List.map c_api_Lease p_b1))]), (1002, .box [(vi p_b2)])]) ⟨Le.refl _, Le.refl _, True.intro⟩ ⟨⟨_, rfl, .refl _⟩, ⟨_, rfl, .refl _⟩, ⟨_, rfl, .refl _⟩, True.intro⟩ rfl) ?_
  refine Ok.seq ?_
  refine Ok.region Tryz.tok ?_
  refine Ok.wk (Wk.tab (L := [(0, (.s (List.map c_api_Room p_s))), (1, (.c (.func 24) [] [(.b 1000 0)]))]) (H' := [(1000, .box [(.c (.func 48) [] [(.b 1001 0), (.b 1002 0)])]), (1001, .box [(.s (List.map c_api_Lease p_b1))]), (1002, .box [(vi p_b2)])]) ⟨Le.refl _, Le.refl _, True.intro⟩ ⟨⟨_, rfl, .refl _⟩, ⟨_, rfl, .refl _⟩, ⟨_, rfl, .refl _⟩, True.intro⟩ rfl) ?_
  refine Ok.seqj (fun v1 => ⟨Cat.tab [], [(1000, .box [(.c (.func 48) [] [(.b 1001 0), (.b 1002 0)])]), (1001, .box [(.s (List.map c_api_Lease p_b1))]), (1002, .box [(vi p_b2)])]⟩) (fun v1 => slices_IndexFunc_api_Room_api_Room__sweep_Sweep_1_J1 v1 = some r) ?_ ?_
  · refine Ok.seq ?_
    refine Ok.region Tryz.tok ?_
    refine ⟨_, List.length_map _, fun _ => ?_⟩
    refine Ok.wk (Wk.tab (L := [(0, (.s (List.map c_api_Room p_s))), (1, (.c (.func 24) [] [(.b 1000 0)])), (7, (vi ((p_s.length : Int)))), (8, (vi (0)))]) (H' := [(1000, .box [(.c (.func 48) [] [(.b 1001 0), (.b 1002 0)])]), (1001, .box [(.s (List.map c_api_Lease p_b1))]), (1002, .box [(vi p_b2)])]) ⟨Le.refl _, Le.refl _, Le.refl _, Le.refl _, True.intro⟩ ⟨⟨_, rfl, .refl _⟩, ⟨_, rfl, .refl _⟩, ⟨_, rfl, .refl _⟩, True.intro⟩ rfl) ?_
    refine Ok.block ?_
    refine Ok.loop (fun (s1 : Int) => ⟨Cat.tab [(0, (.s (List.map c_api_Room p_s))), (1, (.c (.func 24) [] [(.b 1000 0)])), (7, (vi ((p_s.length : Int)))), (8, (vi s1))], [(1000, .box [(.c (.func 48) [] [(.b 1001 0), (.b 1002 0)])]), (1001, .box [(.s (List.map c_api_Lease p_b1))]), (1002, .box [(vi p_b2)])]⟩) (slices_IndexFunc_api_Room_api_Room__sweep_Sweep_1_B1 p_s p_b1 p_b2) (s0 := 0) h (Wk.tab ⟨Le.refl _, Le.refl _, Le.refl _, Le.refl _, True.intro⟩ ⟨⟨_, rfl, .refl _⟩, ⟨_, rfl, .refl _⟩, ⟨_, rfl, .refl _⟩, True.intro⟩ rfl) ?_
    intro s1 y1 hB1 hy1
    unfold slices_IndexFunc_api_Room_api_Room__sweep_Sweep_1_B1 at hB1
    refine Ok.seq ?_
    refine Ok.region Tryz.tok ?_
    refine Ok.wk (Wk.tab (L := [(0, (.s (List.map c_api_Room p_s))), (1, (.c (.func 24) [] [(.b 1000 0)])), (7, (vi ((p_s.length : Int)))), (8, (vi s1)), (9, (vb ((decide (s1 < (p_s.length : Int))))))]) (H' := [(1000, .box [(.c (.func 48) [] [(.b 1001 0), (.b 1002 0)])]), (1001, .box [(.s (List.map c_api_Lease p_b1))]), (1002, .box [(vi p_b2)])]) ⟨Le.refl _, Le.refl _, Le.refl _, Le.refl _, Le.refl _, True.intro⟩ ⟨⟨_, rfl, .refl _⟩, ⟨_, rfl, .refl _⟩, ⟨_, rfl, .refl _⟩, True.intro⟩ rfl) ?_
    refine Ok.seq ?_
    refine Ok.cond (d := 9) (b := (decide (s1 < (p_s.length : Int)))) rfl hB1 (fun hb hB1 => ?_) fun hb hB1 => ?_
    · refine Ok.skip ?_
      refine Ok.seq ?_
      refine Ok.block ?_
      refine Ok.seq ?_
      refine Ok.region Tryz.tok ?_
      refine Ok.wk (Wk.tab (L := [(0, (.s (List.map c_api_Room p_s))), (1, (.c (.func 24) [] [(.b 1000 0)])), (5, (vi s1)), (7, (vi ((p_s.length : Int)))), (8, (vi s1))]) (H' := [(1000, .box [(.c (.func 48) [] [(.b 1001 0), (.b 1002 0)])]), (1001, .box [(.s (List.map c_api_Lease p_b1))]), (1002, .box [(vi p_b2)])]) ⟨Le.refl _, Le.refl _, Le.refl _, Le.refl _, Le.refl _, True.intro⟩ ⟨⟨_, rfl, .refl _⟩, ⟨_, rfl, .refl _⟩, ⟨_, rfl, .refl _⟩, True.intro⟩ rfl) ?_
      refine Ok.seq ?_
      refine Ok.region Tryz.tok ?_
      obtain ⟨x1, hx1, hB1⟩ := bindS hB1
      obtain ⟨x2, hx2, hB1⟩ := bindS hB1
      refine ⟨_, idx_nat hx1, _, idx_row hx1, ⟨_, rfl, ?_⟩⟩
      refine CallOk.gen (m := [(1000, 1000), (1001, 1001), (1002, 1002)]) (n := []) (wg_sweep_Sweep_1 hx2) (.cons (Ln.imm rfl) (.cons (Ln.b rfl) (.nil))) ⟨⟨1000, _, rfl, rfl, .box (.cons (Ln.c (.nil) (.cons (Ln.b rfl) (.cons (Ln.b rfl) (.nil)))) (.nil))⟩, ⟨1001, _, rfl, rfl, .box (.cons (Ln.imm rfl) (.nil))⟩, ⟨1002, _, rfl, rfl, .box (.cons (Ln.imm rfl) (.nil))⟩, True.intro⟩ rfl rfl rfl ?_
      refine Ok.wk (Wk.tab (L := [(0, (.s (List.map c_api_Room p_s))), (1, (.c (.func 24) [] [(.b 1000 0)])), (5, (vi s1)), (7, (vi ((p_s.length : Int)))), (8, (vi s1)), (16, (vb x2))]) (H' := [(1000, .box [(.c (.func 48) [] [(.b 1001 0), (.b 1002 0)])]), (1001, .box [(.s (List.map c_api_Lease p_b1))]), (1002, .box [(vi p_b2)])]) ⟨Le.refl _, Le.refl _, Le.refl _, Le.refl _, Le.refl _, Le.refl _, True.intro⟩ ⟨⟨_, rfl, .refl _⟩, ⟨_, rfl, .refl _⟩, ⟨_, rfl, .refl _⟩, True.intro⟩ rfl) ?_
      refine Ok.cond (d := 16) (b := x2) rfl hB1 (fun hb hB1 => ?_) fun hb hB1 => ?_
      · refine Ok.seq ?_
        refine Ok.region Tryz.tok ?_
        refine Ok.wk (Wk.tab (L := [(4, (vi s1))]) (H' := [(1000, .box [(.c (.func 48) [] [(.b 1001 0), (.b 1002 0)])]), (1001, .box [(.s (List.map c_api_Lease p_b1))]), (1002, .box [(vi p_b2)])]) ⟨Le.refl _, True.intro⟩ ⟨⟨_, rfl, .refl _⟩, ⟨_, rfl, .refl _⟩, ⟨_, rfl, .refl _⟩, True.intro⟩ rfl) ?_
        refine Ok.ret ?_
        have hB1 := out_ret hB1 hy1
        cases hB1
        exact Wk.tab ⟨Le.refl _, True.intro⟩ ⟨⟨_, rfl, .refl _⟩, ⟨_, rfl, .refl _⟩, ⟨_, rfl, .refl _⟩, True.intro⟩ rfl
      · refine Ok.skip ?_
        refine Ok.region Tryz.tok ?_
        obtain ⟨hc1, hB1⟩ := chk_some hB1
        refine (Or.inl ⟨hc1, ?_⟩)
        exact ⟨_, (Option.some.inj hB1).symm, Wk.tab ⟨Le.refl _, Le.refl _, Le.refl _, Le.refl _, True.intro⟩ ⟨⟨_, rfl, .refl _⟩, ⟨_, rfl, .refl _⟩, ⟨_, rfl, .refl _⟩, True.intro⟩ rfl⟩
    · refine Ok.exit ?_
      have hB1 := out_ret hB1 hy1
      exact ⟨_, hB1, Wk.tab True.intro ⟨⟨_, rfl, .refl _⟩, ⟨_, rfl, .refl _⟩, ⟨_, rfl, .refl _⟩, True.intro⟩ rfl⟩
  intro v1 h
  unfold slices_IndexFunc_api_Room_api_Room__sweep_Sweep_1_J1 at h
  refine Ok.seq ?_
  refine Ok.region Tryz.tok ?_
  refine Ok.wk (Wk.tab (L := [(4, (vi ((-1))))]) (H' := [(1000, .box [(.c (.func 48) [] [(.b 1001 0), (.b 1002 0)])]), (1001, .box [(.s (List.map c_api_Lease p_b1))]), (1002, .box [(vi p_b2)])]) ⟨Le.refl _, True.intro⟩ ⟨⟨_, rfl, .refl _⟩, ⟨_, rfl, .refl _⟩, ⟨_, rfl, .refl _⟩, True.intro⟩ rfl) ?_
  refine Ok.ret ?_
  cases h
  exact Wk.tab ⟨Le.refl _, True.intro⟩ ⟨⟨_, rfl, .refl _⟩, ⟨_, rfl, .refl _⟩, ⟨_, rfl, .refl _⟩, True.intro⟩ rfl

theorem wg_slices_IndexFunc_api_Room_api_Room__sweep_Sweep_1_2 {p_h0 : List api_Room} {p_b2 : List api_Lease} {p_b3 : Int} {r : Int} (h : slices_IndexFunc_api_Room_api_Room__sweep_Sweep_1_2 p_h0 p_b2 p_b3 = some r) : CallOk Tryz.prog 51 [(.o 1000), (.c (.func 24) [] [(.b 1001 0)])] ⟨noSlots, [(1000, .own 42 3 (List.map c_api_Room p_h0)), (1001, .box [(.c (.func 48) [] [(.b 1002 0), (.b 1003 0)])]), (1002, .box [(.s (List.map c_api_Lease p_b2))]), (1003, .box [(vi p_b3)])]⟩ fun x s => x = (vi r) ∧ s.H = [(1000, .own 42 3 (List.map c_api_Room p_h0)), (1001, .box [(.c (.func 48) [] [(.b 1002 0), (.b 1003 0)])]), (1002, .box [(.s (List.map c_api_Lease p_b2))]), (1003, .box [(vi p_b3)])] := by
  refine pgen_of_ok (n := 19) (c := (Tryz.f51.body.getD .skip)) Tryz.tok Tryz.func51 (by kernel_rfl) rfl rfl (Nat.le_of_ble_eq_true rfl) ?_
  unfold slices_IndexFunc_api_Room_api_Room__sweep_Sweep_1_2 at h
  refine Ok.wk (Wk.tab (L := [(0, (.o 1000)), (1, (.c (.func 24) [] [(.b 1001 0)]))]) (H' := [(1000, .own 42 3 (List.map c_api_Room p_h0)), (1001, .box [(.c (.func 48) [] [(.b 1002 0), (.b 1003 0)])]), (1002, .box [(.s (List.map c_api_Lease p_b2))]), (1003, .box [(vi p_b3)])]) ⟨Le.refl _, Le.refl _, True.intro⟩ ⟨⟨_, rfl, .refl _⟩, ⟨_, rfl, .refl _⟩, ⟨_, rfl, .refl _⟩, ⟨_, rfl, .refl _⟩, True.intro⟩ rfl) ?_
  refine Ok.seq ?_
  refine Ok.region Tryz.tok ?_
  refine Ok.wk (Wk.tab (L := [(0, (.o 1000)), (1, (.c (.func 24) [] [(.b 1001 0)]))]) (H' := [(1000, .own 42 3 (List.map c_api_Room p_h0)), (1001, .box [(.c (.func 48) [] [(.b 1002 0), (.b 1003 0)])]), (1002, .box [(.s (List.map c_api_Lease p_b2))]), (1003, .box [(vi p_b3)])]) ⟨Le.refl _, Le.refl _, True.intro⟩ ⟨⟨_, rfl, .refl _⟩, ⟨_, rfl, .refl _⟩, ⟨_, rfl, .refl _⟩, ⟨_, rfl, .refl _⟩, True.intro⟩ rfl) ?_
  refine Ok.seqj (fun v1 => ⟨Cat.tab [], [(1000, .own 42 3 (List.map c_api_Room p_h0)), (1001, .box [(.c (.func 48) [] [(.b 1002 0), (.b 1003 0)])]), (1002, .box [(.s (List.map c_api_Lease p_b2))]), (1003, .box [(vi p_b3)])]⟩) (fun v1 => slices_IndexFunc_api_Room_api_Room__sweep_Sweep_1_2_J1 v1 = some r) ?_ ?_
  · refine Ok.seq ?_
    refine Ok.region Tryz.tok ?_
    refine ⟨_, List.length_map _, fun _ => ?_⟩
    refine Ok.wk (Wk.tab (L := [(0, (.o 1000)), (1, (.c (.func 24) [] [(.b 1001 0)])), (7, (vi ((p_h0.length : Int)))), (8, (vi (0)))]) (H' := [(1000, .own 42 3 (List.map c_api_Room p_h0)), (1001, .box [(.c (.func 48) [] [(.b 1002 0), (.b 1003 0)])]), (1002, .box [(.s (List.map c_api_Lease p_b2))]), (1003, .box [(vi p_b3)])]) ⟨Le.refl _, Le.refl _, Le.refl _, Le.refl _, True.intro⟩ ⟨⟨_, rfl, .refl _⟩, ⟨_, rfl, .refl _⟩, ⟨_, rfl, .refl _⟩, ⟨_, rfl, .refl _⟩, True.intro⟩ rfl) ?_
    refine Ok.block ?_
    refine Ok.loop (fun (s1 : Int) => ⟨Cat.tab [(0, (.o 1000)), (1, (.c (.func 24) [] [(.b 1001 0)])), (7, (vi ((p_h0.length : Int)))), (8, (vi s1))], [(1000, .own 42 3 (List.map c_api_Room p_h0)), (1001, .box [(.c (.func 48) [] [(.b 1002 0), (.b 1003 0)])]), (1002, .box [(.s (List.map c_api_Lease p_b2))]), (1003, .box [(vi p_b3)])]⟩) (slices_IndexFunc_api_Room_api_Room__sweep_Sweep_1_2_B1 p_h0 p_b2 p_b3) (s0 := 0) h (Wk.tab ⟨Le.refl _, Le.refl _, Le.refl _, Le.refl _, True.intro⟩ ⟨⟨_, rfl, .refl _⟩, ⟨_, rfl, .refl _⟩, ⟨_, rfl, .refl _⟩, ⟨_, rfl, .refl _⟩, True.intro⟩ rfl) ?_
    intro s1 y1 hB1 hy1
    unfold slices_IndexFunc_api_Room_api_Room__sweep_Sweep_1_2_B1 at hB1
    refine Ok.seq ?_
    refine Ok.region Tryz.tok ?_
    refine Ok.wk (Wk.tab (L := [(0, (.o 1000)), (1, (.c (.func 24) [] [(.b 1001 0)])), (7, (vi ((p_h0.length : Int)))), (8, (vi s1)), (9, (vb ((decide (s1 < (p_h0.length : Int))))))]) (H' := [(1000, .own 42 3 (List.map c_api_Room p_h0)), (1001, .box [(.c (.func 48) [] [(.b 1002 0), (.b 1003 0)])]), (1002, .box [(.s (List.map c_api_Lease p_b2))]), (1003, .box [(vi p_b3)])]) ⟨Le.refl _, Le.refl _, Le.refl _, Le.refl _, Le.refl _, True.intro⟩ ⟨⟨_, rfl, .refl _⟩, ⟨_, rfl, .refl _⟩, ⟨_, rfl, .refl _⟩, ⟨_, rfl, .refl _⟩, True.intro⟩ rfl) ?_
    refine Ok.seq ?_
    refine Ok.cond (d := 9) (b := (decide (s1 < (p_h0.length : Int)))) rfl hB1 (fun hb hB1 => ?_) fun hb hB1 => ?_
    · refine Ok.skip ?_
      refine Ok.seq ?_
      refine Ok.block ?_
      refine Ok.seq ?_
      refine Ok.region Tryz.tok ?_
      refine Ok.wk (Wk.tab (L := [(0, (.o 1000)), (1, (.c (.func 24) [] [(.b 1001 0)])), (5, (vi s1)), (7, (vi ((p_h0.length : Int)))), (8, (vi s1))]) (H' := [(1000, .own 42 3 (List.map c_api_Room p_h0)), (1001, .box [(.c (.func 48) [] [(.b 1002 0), (.b 1003 0)])]), (1002, .box [(.s (List.map c_api_Lease p_b2))]), (1003, .box [(vi p_b3)])]) ⟨Le.refl _, Le.refl _, Le.refl _, Le.refl _, Le.refl _, True.intro⟩ ⟨⟨_, rfl, .refl _⟩, ⟨_, rfl, .refl _⟩, ⟨_, rfl, .refl _⟩, ⟨_, rfl, .refl _⟩, True.intro⟩ rfl) ?_
      refine Ok.seq ?_
      refine Ok.region Tryz.tok ?_
      obtain ⟨x1, hx1, hB1⟩ := bindS hB1
      obtain ⟨x2, hx2, hB1⟩ := bindS hB1
      refine ⟨_, idx_nat hx1, idx_ltm hx1, ⟨_, idx_row hx1, rfl, _, rfl, ?_⟩⟩
      refine CallOk.gen (m := [(1000, 1001), (1001, 1002), (1002, 1003)]) (n := []) (wg_sweep_Sweep_1 hx2) (.cons (Ln.imm rfl) (.cons (Ln.b rfl) (.nil))) ⟨⟨1001, _, rfl, rfl, .box (.cons (Ln.c (.nil) (.cons (Ln.b rfl) (.cons (Ln.b rfl) (.nil)))) (.nil))⟩, ⟨1002, _, rfl, rfl, .box (.cons (Ln.imm rfl) (.nil))⟩, ⟨1003, _, rfl, rfl, .box (.cons (Ln.imm rfl) (.nil))⟩, True.intro⟩ rfl rfl rfl ?_
      refine Ok.wk (Wk.tab (L := [(0, (.o 1000)), (1, (.c (.func 24) [] [(.b 1001 0)])), (5, (vi s1)), (7, (vi ((p_h0.length : Int)))), (8, (vi s1)), (16, (vb x2))]) (H' := [(1000, .own 42 3 (List.map c_api_Room p_h0)), (1001, .box [(.c (.func 48) [] [(.b 1002 0), (.b 1003 0)])]), (1002, .box [(.s (List.map c_api_Lease p_b2))]), (1003, .box [(vi p_b3)])]) ⟨Le.refl _, Le.refl _, Le.refl _, Le.refl _, Le.refl _, Le.refl _, True.intro⟩ ⟨⟨_, rfl, .refl _⟩, ⟨_, rfl, .refl _⟩, ⟨_, rfl, .refl _⟩, ⟨_, rfl, .refl _⟩, True.intro⟩ rfl) ?_
      refine Ok.cond (d := 16) (b := x2) rfl hB1 (fun hb hB1 => ?_) fun hb hB1 => ?_
      · refine Ok.seq ?_
        refine Ok.region Tryz.tok ?_
        refine Ok.wk (Wk.tab (L := [(4, (vi s1))]) (H' := [(1000, .own 42 3 (List.map c_api_Room p_h0)), (1001, .box [(.c (.func 48) [] [(.b 1002 0), (.b 1003 0)])]), (1002, .box [(.s (List.map c_api_Lease p_b2))]), (1003, .box [(vi p_b3)])]) ⟨Le.refl _, True.intro⟩ ⟨⟨_, rfl, .refl _⟩, ⟨_, rfl, .refl _⟩, ⟨_, rfl, .refl _⟩, ⟨_, rfl, .refl _⟩, True.intro⟩ rfl) ?_
        refine Ok.ret ?_
        have hB1 := out_ret hB1 hy1
        cases hB1
        exact Wk.tab ⟨Le.refl _, True.intro⟩ ⟨⟨_, rfl, .refl _⟩, ⟨_, rfl, .refl _⟩, ⟨_, rfl, .refl _⟩, ⟨_, rfl, .refl _⟩, True.intro⟩ rfl
      · refine Ok.skip ?_
        refine Ok.region Tryz.tok ?_
        obtain ⟨hc1, hB1⟩ := chk_some hB1
        refine (Or.inl ⟨hc1, ?_⟩)
        exact ⟨_, (Option.some.inj hB1).symm, Wk.tab ⟨Le.refl _, Le.refl _, Le.refl _, Le.refl _, True.intro⟩ ⟨⟨_, rfl, .refl _⟩, ⟨_, rfl, .refl _⟩, ⟨_, rfl, .refl _⟩, ⟨_, rfl, .refl _⟩, True.intro⟩ rfl⟩
    · refine Ok.exit ?_
      have hB1 := out_ret hB1 hy1
      exact ⟨_, hB1, Wk.tab True.intro ⟨⟨_, rfl, .refl _⟩, ⟨_, rfl, .refl _⟩, ⟨_, rfl, .refl _⟩, ⟨_, rfl, .refl _⟩, True.intro⟩ rfl⟩
  intro v1 h
  unfold slices_IndexFunc_api_Room_api_Room__sweep_Sweep_1_2_J1 at h
  refine Ok.seq ?_
  refine Ok.region Tryz.tok ?_
  refine Ok.wk (Wk.tab (L := [(4, (vi ((-1))))]) (H' := [(1000, .own 42 3 (List.map c_api_Room p_h0)), (1001, .box [(.c (.func 48) [] [(.b 1002 0), (.b 1003 0)])]), (1002, .box [(.s (List.map c_api_Lease p_b2))]), (1003, .box [(vi p_b3)])]) ⟨Le.refl _, True.intro⟩ ⟨⟨_, rfl, .refl _⟩, ⟨_, rfl, .refl _⟩, ⟨_, rfl, .refl _⟩, ⟨_, rfl, .refl _⟩, True.intro⟩ rfl) ?_
  refine Ok.ret ?_
  cases h
  exact Wk.tab ⟨Le.refl _, True.intro⟩ ⟨⟨_, rfl, .refl _⟩, ⟨_, rfl, .refl _⟩, ⟨_, rfl, .refl _⟩, ⟨_, rfl, .refl _⟩, True.intro⟩ rfl

theorem wg_slices_DeleteFunc_api_Room_api_Room__sweep_Sweep_1 {p_h0 : List api_Room} {p_b2 : List api_Lease} {p_b3 : Int} {r : (List api_Room)} (h : slices_DeleteFunc_api_Room_api_Room__sweep_Sweep_1 p_h0 p_b2 p_b3 = some r) : CallOk Tryz.prog 25 [(.o 1000), (.c (.func 24) [] [(.b 1001 0)])] ⟨noSlots, [(1000, .own 42 3 (List.map c_api_Room p_h0)), (1001, .box [(.c (.func 48) [] [(.b 1002 0), (.b 1003 0)])]), (1002, .box [(.s (List.map c_api_Lease p_b2))]), (1003, .box [(vi p_b3)])]⟩ fun x s => x = (.o 999) ∧ s.H = [(999, .own 42 3 (List.map c_api_Room r)), (1001, .box [(.c (.func 48) [] [(.b 1002 0), (.b 1003 0)])]), (1002, .box [(.s (List.map c_api_Lease p_b2))]), (1003, .box [(vi p_b3)])] := by
  refine pgen_of_ok (n := 42) (c := (Tryz.f25.body.getD .skip)) Tryz.tok Tryz.func25 (by kernel_rfl) rfl rfl (Nat.le_of_ble_eq_true rfl) ?_
  unfold slices_DeleteFunc_api_Room_api_Room__sweep_Sweep_1 at h
  refine Ok.wk (Wk.tab (L := [(0, (.o 1000)), (1, (.c (.func 24) [] [(.b 1001 0)]))]) (H' := [(1000, .own 42 3 (List.map c_api_Room p_h0)), (1001, .box [(.c (.func 48) [] [(.b 1002 0), (.b 1003 0)])]), (1002, .box [(.s (List.map c_api_Lease p_b2))]), (1003, .box [(vi p_b3)])]) ⟨Le.refl _, Le.refl _, True.intro⟩ ⟨⟨_, rfl, .refl _⟩, ⟨_, rfl, .refl _⟩, ⟨_, rfl, .refl _⟩, ⟨_, rfl, .refl _⟩, True.intro⟩ rfl) ?_
  refine Ok.seq ?_
  refine Ok.region Tryz.tok ?_
  refine Ok.wk (Wk.tab (L := [(0, (.o 1000)), (1, (.c (.func 24) [] [(.b 1001 0)]))]) (H' := [(1000, .own 42 3 (List.map c_api_Room p_h0)), (1001, .box [(.c (.func 48) [] [(.b 1002 0), (.b 1003 0)])]), (1002, .box [(.s (List.map c_api_Lease p_b2))]), (1003, .box [(vi p_b3)])]) ⟨Le.refl _, Le.refl _, True.intro⟩ ⟨⟨_, rfl, .refl _⟩, ⟨_, rfl, .refl _⟩, ⟨_, rfl, .refl _⟩, ⟨_, rfl, .refl _⟩, True.intro⟩ rfl) ?_
  refine Ok.seq ?_
  refine Ok.region Tryz.tok ?_
  obtain ⟨x1, hx1, h⟩ := bindS h
  refine CallOk.gen (m := [(1000, 1000), (1001, 1001), (1002, 1002), (1003, 1003)]) (n := []) (wg_slices_IndexFunc_api_Room_api_Room__sweep_Sweep_1_2 hx1) (.cons (Ln.o rfl) (.cons (Ln.c (.nil) (.cons (Ln.b rfl) (.nil))) (.nil))) ⟨⟨1000, _, rfl, rfl, .refl rfl⟩, ⟨1001, _, rfl, rfl, .box (.cons (Ln.c (.nil) (.cons (Ln.b rfl) (.cons (Ln.b rfl) (.nil)))) (.nil))⟩, ⟨1002, _, rfl, rfl, .box (.cons (Ln.imm rfl) (.nil))⟩, ⟨1003, _, rfl, rfl, .box (.cons (Ln.imm rfl) (.nil))⟩, True.intro⟩ rfl rfl rfl ?_
  refine Ok.wk (Wk.tab (L := [(0, (.o 1000)), (1, (.c (.func 24) [] [(.b 1001 0)])), (5, (vi x1))]) (H' := [(1000, .own 42 3 (List.map c_api_Room p_h0)), (1001, .box [(.c (.func 48) [] [(.b 1002 0), (.b 1003 0)])]), (1002, .box [(.s (List.map c_api_Lease p_b2))]), (1003, .box [(vi p_b3)])]) ⟨Le.refl _, Le.refl _, Le.refl _, True.intro⟩ ⟨⟨_, rfl, .refl _⟩, ⟨_, rfl, .refl _⟩, ⟨_, rfl, .refl _⟩, ⟨_, rfl, .refl _⟩, True.intro⟩ rfl) ?_
  refine Ok.seq ?_
  refine Ok.seq ?_
  refine Ok.region Tryz.tok ?_
  refine Ok.wk (Wk.tab (L := [(0, (.o 1000)), (1, (.c (.func 24) [] [(.b 1001 0)])), (5, (vi x1)), (12, (vb ((x1 == (-1)))))]) (H' := [(1000, .own 42 3 (List.map c_api_Room p_h0)), (1001, .box [(.c (.func 48) [] [(.b 1002 0), (.b 1003 0)])]), (1002, .box [(.s (List.map c_api_Lease p_b2))]), (1003, .box [(vi p_b3)])]) ⟨Le.refl _, Le.refl _, Le.refl _, Le.refl _, True.intro⟩ ⟨⟨_, rfl, .refl _⟩, ⟨_, rfl, .refl _⟩, ⟨_, rfl, .refl _⟩, ⟨_, rfl, .refl _⟩, True.intro⟩ rfl) ?_
  refine Ok.cond (d := 12) (b := (x1 == (-1))) rfl h (fun hb h => ?_) fun hb h => ?_
  · refine Ok.seq ?_
    refine Ok.region Tryz.tok ?_
    refine Ok.wk (Wk.tab (L := [(4, (.o 1000))]) (H' := [(1000, .own 42 3 (List.map c_api_Room p_h0)), (1001, .box [(.c (.func 48) [] [(.b 1002 0), (.b 1003 0)])]), (1002, .box [(.s (List.map c_api_Lease p_b2))]), (1003, .box [(vi p_b3)])]) ⟨Le.refl _, True.intro⟩ ⟨⟨_, rfl, .refl _⟩, ⟨_, rfl, .refl _⟩, ⟨_, rfl, .refl _⟩, ⟨_, rfl, .refl _⟩, True.intro⟩ rfl) ?_
    refine Ok.ret ?_
    cases h
    exact (Wk.mv (i := 1000) (d := 999) rfl rfl rfl).trans (Wk.tab ⟨Le.refl _, True.intro⟩ ⟨⟨_, rfl, .refl _⟩, ⟨_, rfl, .refl _⟩, ⟨_, rfl, .refl _⟩, ⟨_, rfl, .refl _⟩, True.intro⟩ rfl)
  · refine Ok.skip ?_
    obtain ⟨v1, hv1, h⟩ := bindS h
    refine Ok.seqw ⟨Cat.tab [(0, (.o 1000)), (5, (vi v1.1))], [(1000, .own 42 3 (List.map c_api_Room v1.2)), (1001, .box [(.c (.func 48) [] [(.b 1002 0), (.b 1003 0)])]), (1002, .box [(.s (List.map c_api_Lease p_b2))]), (1003, .box [(vi p_b3)])]⟩ ?_ ?_
    · refine Ok.seq ?_
      refine Ok.region Tryz.tok ?_
      obtain ⟨hc1, hv1⟩ := chk_some hv1
      refine (Or.inl ⟨hc1, ?_⟩)
      refine Ok.wk (Wk.tab (L := [(0, (.o 1000)), (1, (.c (.func 24) [] [(.b 1001 0)])), (5, (vi x1)), (6, (vi ((x1 + 1))))]) (H' := [(1000, .own 42 3 (List.map c_api_Room p_h0)), (1001, .box [(.c (.func 48) [] [(.b 1002 0), (.b 1003 0)])]), (1002, .box [(.s (List.map c_api_Lease p_b2))]), (1003, .box [(vi p_b3)])]) ⟨Le.refl _, Le.refl _, Le.refl _, Le.refl _, True.intro⟩ ⟨⟨_, rfl, .refl _⟩, ⟨_, rfl, .refl _⟩, ⟨_, rfl, .refl _⟩, ⟨_, rfl, .refl _⟩, True.intro⟩ rfl) ?_
      refine Ok.block ?_
      refine Ok.loop (fun (s1 : Int × Int × (List api_Room)) => ⟨Cat.tab [(0, (.o 1000)), (1, (.c (.func 24) [] [(.b 1001 0)])), (5, (vi s1.1)), (6, (vi s1.2.1))], [(1000, .own 42 3 (List.map c_api_Room s1.2.2)), (1001, .box [(.c (.func 48) [] [(.b 1002 0), (.b 1003 0)])]), (1002, .box [(.s (List.map c_api_Lease p_b2))]), (1003, .box [(vi p_b3)])]⟩) (slices_DeleteFunc_api_Room_api_Room__sweep_Sweep_1_B1 p_b2 p_b3) (s0 := (x1, (x1 + 1), p_h0)) hv1 (Wk.tab ⟨Le.refl _, Le.refl _, Le.refl _, Le.refl _, True.intro⟩ ⟨⟨_, rfl, .refl _⟩, ⟨_, rfl, .refl _⟩, ⟨_, rfl, .refl _⟩, ⟨_, rfl, .refl _⟩, True.intro⟩ rfl) ?_
      intro s1 y1 hB1 hy1
      unfold slices_DeleteFunc_api_Room_api_Room__sweep_Sweep_1_B1 at hB1
      refine Ok.seq ?_
      refine Ok.seq ?_
      refine Ok.region Tryz.tok ?_
      refine ⟨_, List.length_map _, fun _ => ?_⟩
      refine Ok.wk (Wk.tab (L := [(0, (.o 1000)), (1, (.c (.func 24) [] [(.b 1001 0)])), (5, (vi s1.1)), (6, (vi s1.2.1)), (19, (vb ((decide (s1.2.1 < (s1.2.2.length : Int))))))]) (H' := [(1000, .own 42 3 (List.map c_api_Room s1.2.2)), (1001, .box [(.c (.func 48) [] [(.b 1002 0), (.b 1003 0)])]), (1002, .box [(.s (List.map c_api_Lease p_b2))]), (1003, .box [(vi p_b3)])]) ⟨Le.refl _, Le.refl _, Le.refl _, Le.refl _, Le.refl _, True.intro⟩ ⟨⟨_, rfl, .refl _⟩, ⟨_, rfl, .refl _⟩, ⟨_, rfl, .refl _⟩, ⟨_, rfl, .refl _⟩, True.intro⟩ rfl) ?_
      refine Ok.cond (d := 19) (b := (decide (s1.2.1 < (s1.2.2.length : Int)))) rfl hB1 (fun hb hB1 => ?_) fun hb hB1 => ?_
      · refine Ok.skip ?_
        obtain ⟨v2, hv2, hB1⟩ := bindS hB1
        refine Ok.seqw ⟨Cat.tab [(0, (.o 1000)), (1, (.c (.func 24) [] [(.b 1001 0)])), (5, (vi v2.1)), (6, (vi s1.2.1))], [(1000, .own 42 3 (List.map c_api_Room v2.2)), (1001, .box [(.c (.func 48) [] [(.b 1002 0), (.b 1003 0)])]), (1002, .box [(.s (List.map c_api_Lease p_b2))]), (1003, .box [(vi p_b3)])]⟩ ?_ ?_
        · refine Ok.block ?_
          refine Ok.seq ?_
          refine Ok.region Tryz.tok ?_
          obtain ⟨x2, hx2, hv2⟩ := bindS hv2
          refine ⟨_, idx_nat hx2, idx_ltm hx2, ⟨_, idx_row hx2, rfl, _, rfl, ⟨_, rfl, ?_⟩⟩⟩
          refine Ok.wk (Wk.tab (L := [(0, (.o 1000)), (1, (.c (.func 24) [] [(.b 1001 0)])), (5, (vi s1.1)), (6, (vi s1.2.1)), (7, (.b 7 0))]) (H' := [(1000, .own 42 3 (List.map c_api_Room s1.2.2)), (1001, .box [(.c (.func 48) [] [(.b 1002 0), (.b 1003 0)])]), (1002, .box [(.s (List.map c_api_Lease p_b2))]), (1003, .box [(vi p_b3)]), (7, .box [(vi x2.Id), (vi x2.Ino), (vi x2.Client)])]) ⟨Le.refl _, Le.refl _, Le.refl _, Le.refl _, Le.refl _, True.intro⟩ ⟨⟨_, rfl, .refl _⟩, ⟨_, rfl, .refl _⟩, ⟨_, rfl, .refl _⟩, ⟨_, rfl, .refl _⟩, ⟨_, rfl, .refl _⟩, True.intro⟩ rfl) ?_
          refine Ok.seq ?_
          refine Ok.region Tryz.tok ?_
          obtain ⟨x3, hx3, hv2⟩ := bindS hv2
          refine ⟨_, rfl, ?_⟩
          refine CallOk.gen (m := [(1000, 1001), (1001, 1002), (1002, 1003)]) (n := []) (wg_sweep_Sweep_1 hx3) (.cons (Ln.imm rfl) (.cons (Ln.b rfl) (.nil))) ⟨⟨1001, _, rfl, rfl, .box (.cons (Ln.c (.nil) (.cons (Ln.b rfl) (.cons (Ln.b rfl) (.nil)))) (.nil))⟩, ⟨1002, _, rfl, rfl, .box (.cons (Ln.imm rfl) (.nil))⟩, ⟨1003, _, rfl, rfl, .box (.cons (Ln.imm rfl) (.nil))⟩, True.intro⟩ rfl rfl rfl ?_
          refine Ok.wk (Wk.tab (L := [(0, (.o 1000)), (1, (.c (.func 24) [] [(.b 1001 0)])), (5, (vi s1.1)), (6, (vi s1.2.1)), (7, (.b 7 0)), (29, (vb ((!x3))))]) (H' := [(1000, .own 42 3 (List.map c_api_Room s1.2.2)), (1001, .box [(.c (.func 48) [] [(.b 1002 0), (.b 1003 0)])]), (1002, .box [(.s (List.map c_api_Lease p_b2))]), (1003, .box [(vi p_b3)]), (7, .box [(vi x2.Id), (vi x2.Ino), (vi x2.Client)])]) ⟨Le.refl _, Le.refl _, Le.refl _, Le.refl _, Le.refl _, Le.refl _, True.intro⟩ ⟨⟨_, rfl, .refl _⟩, ⟨_, rfl, .refl _⟩, ⟨_, rfl, .refl _⟩, ⟨_, rfl, .refl _⟩, ⟨_, rfl, .refl _⟩, True.intro⟩ rfl) ?_
          refine Ok.cond (d := 29) (b := (!x3)) rfl hv2 (fun hb hv2 => ?_) fun hb hv2 => ?_
          · refine Ok.seq ?_
            refine Ok.region Tryz.tok ?_
            obtain ⟨x4, hx4, hv2⟩ := bindS hv2
            refine ⟨_, rfl, ⟨_, idx_nat hx4, idx_ltm hx4, ⟨_, idx_row hx4, rfl, _, rfl, _, set_row (f := c_api_Room) (x := x2), ?_⟩⟩⟩
            refine Ok.wk (Wk.tab (L := [(0, (.o 1000)), (1, (.c (.func 24) [] [(.b 1001 0)])), (5, (vi s1.1)), (6, (vi s1.2.1))]) (H' := [(1000, .own 42 3 (List.map c_api_Room ((s1.2.2.set s1.1.toNat x2)))), (1001, .box [(.c (.func 48) [] [(.b 1002 0), (.b 1003 0)])]), (1002, .box [(.s (List.map c_api_Lease p_b2))]), (1003, .box [(vi p_b3)])]) ⟨Le.refl _, Le.refl _, Le.refl _, Le.refl _, True.intro⟩ ⟨⟨_, rfl, .refl _⟩, ⟨_, rfl, .refl _⟩, ⟨_, rfl, .refl _⟩, ⟨_, rfl, .refl _⟩, True.intro⟩ rfl) ?_
            refine Ok.region Tryz.tok ?_
            obtain ⟨hc2, hv2⟩ := chk_some hv2
            refine (Or.inl ⟨hc2, ?_⟩)
            cases hv2
            exact Wk.tab ⟨Le.refl _, Le.refl _, Le.refl _, Le.refl _, True.intro⟩ ⟨⟨_, rfl, .refl _⟩, ⟨_, rfl, .refl _⟩, ⟨_, rfl, .refl _⟩, ⟨_, rfl, .refl _⟩, True.intro⟩ rfl
          · refine Ok.skip ?_
            cases hv2
            exact Wk.tab ⟨Le.refl _, Le.refl _, Le.refl _, Le.refl _, True.intro⟩ ⟨⟨_, rfl, .refl _⟩, ⟨_, rfl, .refl _⟩, ⟨_, rfl, .refl _⟩, ⟨_, rfl, .refl _⟩, True.intro⟩ rfl
        refine Ok.region Tryz.tok ?_
        obtain ⟨hc3, hB1⟩ := chk_some hB1
        refine (Or.inl ⟨hc3, ?_⟩)
        exact ⟨_, (Option.some.inj hB1).symm, Wk.tab ⟨Le.refl _, Le.refl _, Le.refl _, Le.refl _, True.intro⟩ ⟨⟨_, rfl, .refl _⟩, ⟨_, rfl, .refl _⟩, ⟨_, rfl, .refl _⟩, ⟨_, rfl, .refl _⟩, True.intro⟩ rfl⟩
      · refine Ok.exit ?_
        have hB1 := out_ret hB1 hy1
        cases hB1
        exact Wk.tab ⟨Le.refl _, Le.refl _, True.intro⟩ ⟨⟨_, rfl, .refl _⟩, ⟨_, rfl, .refl _⟩, ⟨_, rfl, .refl _⟩, ⟨_, rfl, .refl _⟩, True.intro⟩ rfl
    refine Ok.seq ?_
    refine Ok.region Tryz.tok ?_
    obtain ⟨hc4, h⟩ := chk_some h
    refine ⟨_, sl_nat hc4.1, sl_own hc4, ⟨_, clr_rows (f := c_api_Room) (z := ((⟨0, 0, 0⟩ : api_Room) : api_Room)) v1.2 (v1.1.toNat), ?_⟩⟩
    refine Ok.wk (Wk.tab (L := [(0, (.o 1000)), (5, (vi v1.1))]) (H' := [(1000, .own 42 3 (List.map c_api_Room ((v1.2.take (v1.1.toNat) ++ List.replicate (v1.2.length - (v1.1.toNat)) ((⟨0, 0, 0⟩ : api_Room) : api_Room))))), (1001, .box [(.c (.func 48) [] [(.b 1002 0), (.b 1003 0)])]), (1002, .box [(.s (List.map c_api_Lease p_b2))]), (1003, .box [(vi p_b3)])]) ⟨Le.refl _, Le.refl _, True.intro⟩ ⟨⟨_, rfl, .refl _⟩, ⟨_, rfl, .refl _⟩, ⟨_, rfl, .refl _⟩, ⟨_, rfl, .refl _⟩, True.intro⟩ rfl) ?_
    refine Ok.seq ?_
    refine Ok.wk (Wk.mv (i := 1000) (d := 999) rfl rfl rfl) ?_
    refine Ok.region Tryz.tok ?_
    obtain ⟨hc5, h⟩ := chk_some h
    refine ⟨_, sl_nat hc5.1, sl_own hc5, _, (List.map_take (f := c_api_Room)).symm, ?_⟩
    refine Ok.wk (Wk.tab (L := [(4, (.o 999))]) (H' := [(999, .own 42 3 (List.map c_api_Room ((((v1.2.take (v1.1.toNat) ++ List.replicate (v1.2.length - (v1.1.toNat)) ((⟨0, 0, 0⟩ : api_Room) : api_Room))).take v1.1.toNat)))), (1001, .box [(.c (.func 48) [] [(.b 1002 0), (.b 1003 0)])]), (1002, .box [(.s (List.map c_api_Lease p_b2))]), (1003, .box [(vi p_b3)])]) ⟨Le.refl _, True.intro⟩ ⟨⟨_, rfl, .refl _⟩, ⟨_, rfl, .refl _⟩, ⟨_, rfl, .refl _⟩, ⟨_, rfl, .refl _⟩, True.intro⟩ rfl) ?_
    refine Ok.ret ?_
    cases h
    exact Wk.tab ⟨Le.refl _, True.intro⟩ ⟨⟨_, rfl, .refl _⟩, ⟨_, rfl, .refl _⟩, ⟨_, rfl, .refl _⟩, ⟨_, rfl, .refl _⟩, True.intro⟩ rfl

theorem w_sweep_Sweep [Off] {p_named : List api_Named} {p_rooms : List api_Room} {p_leases : List api_Lease} {p_now : Int} {p_disks : List api_Disk} {r : (List api_Disk) × (List api_Room)} (h : sweep_Sweep p_named p_rooms p_leases p_now p_disks = some r) : Pure Tryz.prog 7 [(.s (List.map c_api_Named p_named)), (.s (List.map c_api_Room p_rooms)), (.s (List.map c_api_Lease p_leases)), (vi p_now), (.s (List.map c_api_Disk p_disks))] (.t [(.s (List.map c_api_Disk r.1)), (.s (List.map c_api_Room r.2))]) := by
  refine pure_of_ok (n := 57) (c := (Tryz.f7.body.getD .skip)) Tryz.tok Tryz.func7 (by kernel_rfl) rfl rfl (Nat.le_of_ble_eq_true rfl) ?_
  unfold sweep_Sweep at h
  refine Ok.wk (Wk.tab (L := [(0, (.s (List.map c_api_Named p_named))), (1, (.s (List.map c_api_Room p_rooms))), (2, (.s (List.map c_api_Lease p_leases))), (3, (vi p_now)), (4, (.s (List.map c_api_Disk p_disks)))]) (H' := []) ⟨Le.refl _, Le.refl _, Le.refl _, Le.refl _, Le.refl _, True.intro⟩ True.intro rfl) ?_
  refine Ok.seq ?_
  refine Ok.region Tryz.tok ?_
  refine Ok.wk (Wk.tab (L := [(0, (.s (List.map c_api_Named p_named))), (1, (.s (List.map c_api_Room p_rooms))), (2, (.s (List.map c_api_Lease p_leases))), (3, (vi p_now)), (4, (.s (List.map c_api_Disk p_disks)))]) (H' := []) ⟨Le.refl _, Le.refl _, Le.refl _, Le.refl _, Le.refl _, True.intro⟩ True.intro rfl) ?_
  refine Ok.seq ?_
  refine Ok.region Tryz.tok ?_
  refine Ok.wk (Wk.tab (L := [(0, (.s (List.map c_api_Named p_named))), (1, (.s (List.map c_api_Room p_rooms))), (2, (.s (List.map c_api_Lease p_leases))), (3, (vi p_now)), (4, (.s (List.map c_api_Disk p_disks))), (12, (.m 20))]) (H' := [(20, .mp false (List.map (fun p => (p.1, cB p.2)) (([] : List (Int × Bool)))))]) ⟨Le.refl _, Le.refl _, Le.refl _, Le.refl _, Le.refl _, Le.refl _, True.intro⟩ ⟨⟨_, rfl, .refl _⟩, True.intro⟩ rfl) ?_
  obtain ⟨v1, hv1, h⟩ := bindS h
  refine Ok.seqw ⟨Cat.tab [(1, (.s (List.map c_api_Room p_rooms))), (2, (.s (List.map c_api_Lease p_leases))), (3, (vi p_now)), (4, (.s (List.map c_api_Disk p_disks))), (12, (.m 20))], [(20, .mp false (List.map (fun p => (p.1, cB p.2)) v1))]⟩ ?_ ?_
  · refine Ok.seq ?_
    refine Ok.region Tryz.tok ?_
    obtain ⟨x1, hx1, hv1⟩ := bindS hv1
    refine CallOk.call (w_sweep_Gone hx1) (LeL.refl _) ?_
    refine ⟨_, List.length_map _, fun _ => ?_⟩
    refine Ok.wk (Wk.tab (L := [(1, (.s (List.map c_api_Room p_rooms))), (2, (.s (List.map c_api_Lease p_leases))), (3, (vi p_now)), (4, (.s (List.map c_api_Disk p_disks))), (12, (.m 20)), (26, (.s (List.map Go.Cat.encI x1))), (27, (vi ((x1.length : Int)))), (28, (vi (0)))]) (H' := [(20, .mp false (List.map (fun p => (p.1, cB p.2)) (([] : List (Int × Bool)))))]) ⟨Le.refl _, Le.refl _, Le.refl _, Le.refl _, Le.refl _, Le.refl _, Le.refl _, Le.refl _, True.intro⟩ ⟨⟨_, rfl, .refl _⟩, True.intro⟩ rfl) ?_
    refine Ok.block ?_
    refine Ok.loop (fun (s1 : Int × (List (Int × Bool))) => ⟨Cat.tab [(1, (.s (List.map c_api_Room p_rooms))), (2, (.s (List.map c_api_Lease p_leases))), (3, (vi p_now)), (4, (.s (List.map c_api_Disk p_disks))), (12, (.m 20)), (26, (.s (List.map Go.Cat.encI x1))), (27, (vi ((x1.length : Int)))), (28, (vi s1.1))], [(20, .mp false (List.map (fun p => (p.1, cB p.2)) s1.2))]⟩) (sweep_Sweep_B1 x1) (s0 := (0, ([] : List (Int × Bool)))) hv1 (Wk.tab ⟨Le.refl _, Le.refl _, Le.refl _, Le.refl _, Le.refl _, Le.refl _, Le.refl _, Le.refl _, True.intro⟩ ⟨⟨_, rfl, .refl _⟩, True.intro⟩ rfl) ?_
    intro s1 y1 hB1 hy1
    unfold sweep_Sweep_B1 at hB1
    refine Ok.seq ?_
    refine Ok.region Tryz.tok ?_
    refine Ok.wk (Wk.tab (L := [(1, (.s (List.map c_api_Room p_rooms))), (2, (.s (List.map c_api_Lease p_leases))), (3, (vi p_now)), (4, (.s (List.map c_api_Disk p_disks))), (12, (.m 20)), (26, (.s (List.map Go.Cat.encI x1))), (27, (vi ((x1.length : Int)))), (28, (vi s1.1)), (29, (vb ((decide (s1.1 < (x1.length : Int))))))]) (H' := [(20, .mp false (List.map (fun p => (p.1, cB p.2)) s1.2))]) ⟨Le.refl _, Le.refl _, Le.refl _, Le.refl _, Le.refl _, Le.refl _, Le.refl _, Le.refl _, Le.refl _, True.intro⟩ ⟨⟨_, rfl, .refl _⟩, True.intro⟩ rfl) ?_
    refine Ok.seq ?_
    refine Ok.cond (d := 29) (b := (decide (s1.1 < (x1.length : Int)))) rfl hB1 (fun hb hB1 => ?_) fun hb hB1 => ?_
    · refine Ok.skip ?_
      refine Ok.seq ?_
      refine Ok.block ?_
      refine Ok.seq ?_
      refine Ok.region Tryz.tok ?_
      obtain ⟨x2, hx2, hB1⟩ := bindS hB1
      refine ⟨_, idx_nat hx2, _, idx_row hx2, ⟨_, rfl, ?_⟩⟩
      refine Ok.wk (Wk.tab (L := [(1, (.s (List.map c_api_Room p_rooms))), (2, (.s (List.map c_api_Lease p_leases))), (3, (vi p_now)), (4, (.s (List.map c_api_Disk p_disks))), (12, (.m 20)), (14, (vi x2)), (26, (.s (List.map Go.Cat.encI x1))), (27, (vi ((x1.length : Int)))), (28, (vi s1.1))]) (H' := [(20, .mp false (List.map (fun p => (p.1, cB p.2)) s1.2))]) ⟨Le.refl _, Le.refl _, Le.refl _, Le.refl _, Le.refl _, Le.refl _, Le.refl _, Le.refl _, Le.refl _, True.intro⟩ ⟨⟨_, rfl, .refl _⟩, True.intro⟩ rfl) ?_
      refine Ok.region Tryz.tok ?_
      obtain ⟨hc1, hB1⟩ := chk_some hB1
      refine ⟨hc1.1, Nat.lt_of_le_of_lt (Nat.le_of_eq (List.length_map _)) hc1.2, _, mset_map cB x2 true s1.2, ?_⟩
      refine Ok.wk (Wk.tab (L := [(1, (.s (List.map c_api_Room p_rooms))), (2, (.s (List.map c_api_Lease p_leases))), (3, (vi p_now)), (4, (.s (List.map c_api_Disk p_disks))), (12, (.m 20)), (26, (.s (List.map Go.Cat.encI x1))), (27, (vi ((x1.length : Int)))), (28, (vi s1.1))]) (H' := [(20, .mp false (List.map (fun p => (p.1, cB p.2)) ((mset x2 true s1.2))))]) ⟨Le.refl _, Le.refl _, Le.refl _, Le.refl _, Le.refl _, Le.refl _, Le.refl _, Le.refl _, True.intro⟩ ⟨⟨_, rfl, .refl _⟩, True.intro⟩ rfl) ?_
      refine Ok.region Tryz.tok ?_
      obtain ⟨hc2, hB1⟩ := chk_some hB1
      refine (Or.inl ⟨hc2, ?_⟩)
      exact ⟨_, (Option.some.inj hB1).symm, Wk.tab ⟨Le.refl _, Le.refl _, Le.refl _, Le.refl _, Le.refl _, Le.refl _, Le.refl _, Le.refl _, True.intro⟩ ⟨⟨_, rfl, .refl _⟩, True.intro⟩ rfl⟩
    · refine Ok.exit ?_
      have hB1 := out_ret hB1 hy1
      cases hB1
      exact Wk.tab ⟨Le.refl _, Le.refl _, Le.refl _, Le.refl _, Le.refl _, True.intro⟩ ⟨⟨_, rfl, .refl _⟩, True.intro⟩ rfl
  refine Ok.seq ?_
  refine Ok.region Tryz.tok ?_
  refine Ok.wk (Wk.tab (L := [(1, (.s (List.map c_api_Room p_rooms))), (2, (.s (List.map c_api_Lease p_leases))), (3, (vi p_now)), (4, (.s (List.map c_api_Disk p_disks))), (12, (.m 20)), (15, (.v (.slice none 0 0)))]) (H' := [(20, .mp false (List.map (fun p => (p.1, cB p.2)) v1))]) ⟨Le.refl _, Le.refl _, Le.refl _, Le.refl _, Le.refl _, Le.refl _, True.intro⟩ ⟨⟨_, rfl, .refl _⟩, True.intro⟩ rfl) ?_
  obtain ⟨v2, hv2, h⟩ := bindS h
  refine Ok.seqw ⟨Cat.tab [(1, (.s (List.map c_api_Room p_rooms))), (2, (.s (List.map c_api_Lease p_leases))), (3, (vi p_now)), (15, (.o 46))], [(46, .own 56 3 (List.map c_api_Disk v2))]⟩ ?_ ?_
  · refine Ok.seq ?_
    refine Ok.region Tryz.tok ?_
    refine ⟨_, List.length_map _, fun _ => ?_⟩
    refine Ok.wk (Wk.tab (L := [(1, (.s (List.map c_api_Room p_rooms))), (2, (.s (List.map c_api_Lease p_leases))), (3, (vi p_now)), (12, (.m 20)), (15, (.v (.slice none 0 0))), (35, (.s (List.map c_api_Disk p_disks))), (36, (vi ((p_disks.length : Int)))), (37, (vi (0)))]) (H' := [(20, .mp false (List.map (fun p => (p.1, cB p.2)) v1))]) ⟨Le.refl _, Le.refl _, Le.refl _, Le.refl _, Le.refl _, Le.refl _, Le.refl _, Le.refl _, True.intro⟩ ⟨⟨_, rfl, .refl _⟩, True.intro⟩ rfl) ?_
    refine Ok.block ?_
    refine Ok.loop (fun (s2 : Int × (List api_Disk)) => ⟨Cat.tab [(1, (.s (List.map c_api_Room p_rooms))), (2, (.s (List.map c_api_Lease p_leases))), (3, (vi p_now)), (12, (.m 20)), (15, (.o 46)), (35, (.s (List.map c_api_Disk p_disks))), (36, (vi ((p_disks.length : Int)))), (37, (vi s2.1))], [(20, .mp false (List.map (fun p => (p.1, cB p.2)) v1)), (46, .own 56 3 (List.map c_api_Disk s2.2))]⟩) (sweep_Sweep_B2 p_disks v1) (s0 := (0, [])) hv2 ((Wk.own0 (t := 15) (id := 46) (E := 56) (K := 3) rfl rfl).trans (Wk.tab ⟨Le.refl _, Le.refl _, Le.refl _, Le.refl _, Le.refl _, Le.refl _, Le.refl _, Le.refl _, True.intro⟩ ⟨⟨_, rfl, .refl _⟩, ⟨_, rfl, .refl _⟩, True.intro⟩ rfl)) ?_
    intro s2 y2 hB2 hy2
    unfold sweep_Sweep_B2 at hB2
    refine Ok.seq ?_
    refine Ok.region Tryz.tok ?_
    refine Ok.wk (Wk.tab (L := [(1, (.s (List.map c_api_Room p_rooms))), (2, (.s (List.map c_api_Lease p_leases))), (3, (vi p_now)), (12, (.m 20)), (15, (.o 46)), (35, (.s (List.map c_api_Disk p_disks))), (36, (vi ((p_disks.length : Int)))), (37, (vi s2.1)), (38, (vb ((decide (s2.1 < (p_disks.length : Int))))))]) (H' := [(20, .mp false (List.map (fun p => (p.1, cB p.2)) v1)), (46, .own 56 3 (List.map c_api_Disk s2.2))]) ⟨Le.refl _, Le.refl _, Le.refl _, Le.refl _, Le.refl _, Le.refl _, Le.refl _, Le.refl _, Le.refl _, True.intro⟩ ⟨⟨_, rfl, .refl _⟩, ⟨_, rfl, .refl _⟩, True.intro⟩ rfl) ?_
    refine Ok.seq ?_
    refine Ok.cond (d := 38) (b := (decide (s2.1 < (p_disks.length : Int)))) rfl hB2 (fun hb hB2 => ?_) fun hb hB2 => ?_
    · refine Ok.skip ?_
      refine Ok.seq ?_
      refine Ok.block ?_
      refine Ok.seq ?_
      refine Ok.region Tryz.tok ?_
      obtain ⟨x3, hx3, hB2⟩ := bindS hB2
      refine ⟨_, idx_nat hx3, _, idx_row hx3, ⟨_, rfl, ⟨_, rfl, ?_⟩⟩⟩
      refine Ok.wk (Wk.tab (L := [(1, (.s (List.map c_api_Room p_rooms))), (2, (.s (List.map c_api_Lease p_leases))), (3, (vi p_now)), (12, (.m 20)), (15, (.o 46)), (17, (.b 17 0)), (35, (.s (List.map c_api_Disk p_disks))), (36, (vi ((p_disks.length : Int)))), (37, (vi s2.1))]) (H' := [(20, .mp false (List.map (fun p => (p.1, cB p.2)) v1)), (46, .own 56 3 (List.map c_api_Disk s2.2)), (17, .box [(.s (List.map c_api_Page x3.Synced)), (.s (List.map c_api_Page x3.Loose)), (vb x3.Down)])]) ⟨Le.refl _, Le.refl _, Le.refl _, Le.refl _, Le.refl _, Le.refl _, Le.refl _, Le.refl _, Le.refl _, True.intro⟩ ⟨⟨_, rfl, .refl _⟩, ⟨_, rfl, .refl _⟩, ⟨_, rfl, .refl _⟩, True.intro⟩ rfl) ?_
      refine Ok.region Tryz.tok ?_
      obtain ⟨x4, hx4, hB2⟩ := bindS hB2
      refine ⟨_, rfl, ?_⟩
      refine CallOk.gen (m := [(1000, 20)]) (n := []) (wg_sweep_swept hx4) (.cons (Ln.imm rfl) (.cons (Ln.mm rfl) (.nil))) ⟨⟨20, _, rfl, rfl, .refl rfl⟩, True.intro⟩ rfl rfl rfl ?_
      obtain ⟨hc3, hB2⟩ := chk_some hB2
      refine Or.inl ⟨rowsLen_map (f := c_api_Disk) (n := 3) (fun _ => rfl) ([(⟨x4.1, x4.2.1, x4.2.2⟩ : api_Disk)]), app_b2 (f := c_api_Disk) (l := s2.2) (l' := ([(⟨x4.1, x4.2.1, x4.2.2⟩ : api_Disk)])) hc3, _, (List.map_append (f := c_api_Disk) (l₁ := s2.2) (l₂ := ([(⟨x4.1, x4.2.1, x4.2.2⟩ : api_Disk)]))).symm, ?_⟩
      refine Ok.wk (Wk.tab (L := [(1, (.s (List.map c_api_Room p_rooms))), (2, (.s (List.map c_api_Lease p_leases))), (3, (vi p_now)), (12, (.m 20)), (15, (.o 46)), (35, (.s (List.map c_api_Disk p_disks))), (36, (vi ((p_disks.length : Int)))), (37, (vi s2.1))]) (H' := [(20, .mp false (List.map (fun p => (p.1, cB p.2)) v1)), (46, .own 56 3 (List.map c_api_Disk ((s2.2 ++ [(⟨x4.1, x4.2.1, x4.2.2⟩ : api_Disk)]))))]) ⟨Le.refl _, Le.refl _, Le.refl _, Le.refl _, Le.refl _, Le.refl _, Le.refl _, Le.refl _, True.intro⟩ ⟨⟨_, rfl, .refl _⟩, ⟨_, rfl, .refl _⟩, True.intro⟩ rfl) ?_
      refine Ok.region Tryz.tok ?_
      obtain ⟨hc4, hB2⟩ := chk_some hB2
      refine (Or.inl ⟨hc4, ?_⟩)
      exact ⟨_, (Option.some.inj hB2).symm, Wk.tab ⟨Le.refl _, Le.refl _, Le.refl _, Le.refl _, Le.refl _, Le.refl _, Le.refl _, Le.refl _, True.intro⟩ ⟨⟨_, rfl, .refl _⟩, ⟨_, rfl, .refl _⟩, True.intro⟩ rfl⟩
    · refine Ok.exit ?_
      have hB2 := out_ret hB2 hy2
      cases hB2
      exact Wk.tab ⟨Le.refl _, Le.refl _, Le.refl _, Le.refl _, True.intro⟩ ⟨⟨_, rfl, .refl _⟩, True.intro⟩ rfl
  refine Ok.seq ?_
  refine Ok.region Tryz.tok ?_
  obtain ⟨x5, hx5, h⟩ := bindS h
  refine CallOk.gen (m := []) (n := [(2, 999), (3, 998)]) (wg_sweep_open hx5) (.cons (Ln.imm rfl) (.cons (Ln.imm rfl) (.nil))) True.intro rfl rfl rfl ?_
  refine ⟨_, rfl, ?_⟩
  refine Ok.wk (Wk.tab (L := [(1, (.s (List.map c_api_Room p_rooms))), (15, (.o 46)), (18, (.b 18 0))]) (H' := [(46, .own 56 3 (List.map c_api_Disk v2)), (18, .box [(.c (.func 48) [] [(.b 999 0), (.b 998 0)])]), (999, .box [(.s (List.map c_api_Lease p_leases))]), (998, .box [(vi p_now)])]) ⟨Le.refl _, Le.refl _, Le.refl _, True.intro⟩ ⟨⟨_, rfl, .refl _⟩, ⟨_, rfl, .refl _⟩, ⟨_, rfl, .refl _⟩, ⟨_, rfl, .refl _⟩, True.intro⟩ rfl) ?_
  refine Ok.seq ?_
  refine Ok.region Tryz.tok ?_
  refine Ok.wk (Wk.tab (L := [(1, (.s (List.map c_api_Room p_rooms))), (15, (.o 46)), (19, (.c (.func 24) [] [(.b 18 0)]))]) (H' := [(46, .own 56 3 (List.map c_api_Disk v2)), (18, .box [(.c (.func 48) [] [(.b 999 0), (.b 998 0)])]), (999, .box [(.s (List.map c_api_Lease p_leases))]), (998, .box [(vi p_now)])]) ⟨Le.refl _, Le.refl _, Le.refl _, True.intro⟩ ⟨⟨_, rfl, .refl _⟩, ⟨_, rfl, .refl _⟩, ⟨_, rfl, .refl _⟩, ⟨_, rfl, .refl _⟩, True.intro⟩ rfl) ?_
  refine Ok.seq ?_
  refine Ok.region Tryz.tok ?_
  obtain ⟨x6, hx6, h⟩ := bindS h
  refine CallOk.own (D := 54) (wo_slices_Clone_api_Room_api_Room hx6) (LeL.refl _) rfl ?_
  obtain ⟨x7, hx7, h⟩ := bindS h
  refine CallOk.gen (m := [(1000, 54), (1001, 18), (1002, 999), (1003, 998)]) (n := [(999, 54)]) (wg_slices_DeleteFunc_api_Room_api_Room__sweep_Sweep_1 hx7) (.cons (Ln.o rfl) (.cons (Ln.c (.nil) (.cons (Ln.b rfl) (.nil))) (.nil))) ⟨⟨54, _, rfl, rfl, .refl rfl⟩, ⟨18, _, rfl, rfl, .box (.cons (Ln.c (.nil) (.cons (Ln.b rfl) (.cons (Ln.b rfl) (.nil)))) (.nil))⟩, ⟨999, _, rfl, rfl, .box (.cons (Ln.imm rfl) (.nil))⟩, ⟨998, _, rfl, rfl, .box (.cons (Ln.imm rfl) (.nil))⟩, True.intro⟩ rfl rfl rfl ?_
  refine Ok.wk (Wk.tab (L := [(10, (.o 46)), (11, (.o 54))]) (H' := [(46, .own 56 3 (List.map c_api_Disk v2)), (54, .own 42 3 (List.map c_api_Room x7))]) ⟨Le.refl _, Le.refl _, True.intro⟩ ⟨⟨_, rfl, .refl _⟩, ⟨_, rfl, .refl _⟩, True.intro⟩ rfl) ?_
  refine Ok.ret ?_
  cases h
  exact (Fz.t (.cons (Fz.o rfl) (.cons (Fz.o rfl) .nil)))

theorem wo_sweep_Keeps [Off] {p_named : List api_Named} {p_rooms : List api_Room} {p_leases : List api_Lease} {p_now : Int} {r : (List Int)} (h : sweep_Keeps p_named p_rooms p_leases p_now = some r) : POwn Tryz.prog 10 [(.s (List.map c_api_Named p_named)), (.s (List.map c_api_Room p_rooms)), (.s (List.map c_api_Lease p_leases)), (vi p_now)] 3 1 (List.map Go.Cat.encI r) := by
  refine pown_of_ok (n := 17) (c := (Tryz.f10.body.getD .skip)) Tryz.tok Tryz.func10 (by kernel_rfl) rfl rfl (Nat.le_of_ble_eq_true rfl) ?_
  unfold sweep_Keeps at h
  refine Ok.wk (Wk.tab (L := [(0, (.s (List.map c_api_Named p_named))), (1, (.s (List.map c_api_Room p_rooms))), (2, (.s (List.map c_api_Lease p_leases))), (3, (vi p_now))]) (H' := []) ⟨Le.refl _, Le.refl _, Le.refl _, Le.refl _, True.intro⟩ True.intro rfl) ?_
  refine Ok.seq ?_
  refine Ok.region Tryz.tok ?_
  refine Ok.wk (Wk.tab (L := [(0, (.s (List.map c_api_Named p_named))), (1, (.s (List.map c_api_Room p_rooms))), (2, (.s (List.map c_api_Lease p_leases))), (3, (vi p_now))]) (H' := []) ⟨Le.refl _, Le.refl _, Le.refl _, Le.refl _, True.intro⟩ True.intro rfl) ?_
  refine Ok.seq ?_
  refine Ok.region Tryz.tok ?_
  obtain ⟨x1, hx1, h⟩ := bindS h
  refine CallOk.gen (m := []) (n := [(2, 999), (3, 998)]) (wg_sweep_open hx1) (.cons (Ln.imm rfl) (.cons (Ln.imm rfl) (.nil))) True.intro rfl rfl rfl ?_
  obtain ⟨x2, hx2, h⟩ := bindS h
  refine CallOk.gen (m := [(1000, 999), (1001, 998)]) (n := [(12, 997)]) (wg_sweep_kept__sweep_open_1 hx2) (.cons (Ln.imm rfl) (.cons (Ln.imm rfl) (.cons (Ln.c (.nil) (.cons (Ln.b rfl) (.cons (Ln.b rfl) (.nil)))) (.nil)))) ⟨⟨999, _, rfl, rfl, .box (.cons (Ln.imm rfl) (.nil))⟩, ⟨998, _, rfl, rfl, .box (.cons (Ln.imm rfl) (.nil))⟩, True.intro⟩ rfl rfl rfl ?_
  refine CallOk.keys (D := 15) Tryz.keysS30 Tryz.enters30 rfl rfl rfl ?_
  obtain ⟨hc1, h⟩ := chk_some h
  obtain ⟨x3, hx3, h⟩ := bindS h
  refine CallOk.sortedKeys (D := 15) (D2 := 16) Tryz.sortedS29_56 Tryz.enters29 rfl rfl (klen hc1) (ksort hx3) rfl ?_
  refine Ok.wk (Wk.tab (L := [(8, (.o 16))]) (H' := [(16, .own 3 1 (List.map Go.Cat.encI x3))]) ⟨Le.refl _, True.intro⟩ ⟨⟨_, rfl, .refl _⟩, True.intro⟩ rfl) ?_
  refine Ok.ret ?_
  cases h
  exact (.inr ⟨_, rfl, rfl⟩)
theorem w_sweep_Keeps [Off] {p_named : List api_Named} {p_rooms : List api_Room} {p_leases : List api_Lease} {p_now : Int} {r : (List Int)} (h : sweep_Keeps p_named p_rooms p_leases p_now = some r) : Pure Tryz.prog 10 [(.s (List.map c_api_Named p_named)), (.s (List.map c_api_Room p_rooms)), (.s (List.map c_api_Lease p_leases)), (vi p_now)] (.s (List.map Go.Cat.encI r)) := (wo_sweep_Keeps h).pure

theorem w_ref02_Ints {p_a : List Int} {p_b : List Int} {r : Bool} (h : ref02_Ints p_a p_b = some r) : Pure Tryz.prog 9 [(.s (List.map Go.Cat.encI p_a)), (.s (List.map Go.Cat.encI p_b))] (vb r) := by
  refine pure_of_ok (n := 26) (c := (Tryz.f9.body.getD .skip)) Tryz.tok Tryz.func9 (by kernel_rfl) rfl rfl (Nat.le_of_ble_eq_true rfl) ?_
  unfold ref02_Ints at h
  refine Ok.wk (Wk.tab (L := [(0, (.s (List.map Go.Cat.encI p_a))), (1, (.s (List.map Go.Cat.encI p_b)))]) (H' := []) ⟨Le.refl _, Le.refl _, True.intro⟩ True.intro rfl) ?_
  refine Ok.seq ?_
  refine Ok.region Tryz.tok ?_
  refine Ok.wk (Wk.tab (L := [(0, (.s (List.map Go.Cat.encI p_a))), (1, (.s (List.map Go.Cat.encI p_b)))]) (H' := []) ⟨Le.refl _, Le.refl _, True.intro⟩ True.intro rfl) ?_
  refine Ok.seq ?_
  refine Ok.seq ?_
  refine Ok.region Tryz.tok ?_
  refine ⟨_, List.length_map _, fun _ => ⟨_, List.length_map _, fun _ => ?_⟩⟩
  refine Ok.wk (Wk.tab (L := [(0, (.s (List.map Go.Cat.encI p_a))), (1, (.s (List.map Go.Cat.encI p_b))), (10, (vb (((p_a.length : Int) != (p_b.length : Int)))))]) (H' := []) ⟨Le.refl _, Le.refl _, Le.refl _, True.intro⟩ True.intro rfl) ?_
  refine Ok.cond (d := 10) (b := ((p_a.length : Int) != (p_b.length : Int))) rfl h (fun hb h => ?_) fun hb h => ?_
  · refine Ok.seq ?_
    refine Ok.region Tryz.tok ?_
    refine Ok.wk (Wk.tab (L := [(4, (vb false))]) (H' := []) ⟨Le.refl _, True.intro⟩ True.intro rfl) ?_
    refine Ok.ret ?_
    cases h
    exact Fz.v
  · refine Ok.skip ?_
    refine Ok.seqj (fun v1 => ⟨Cat.tab [], []⟩) (fun v1 => ref02_Ints_J1 v1 = some r) ?_ ?_
    · refine Ok.seq ?_
      refine Ok.region Tryz.tok ?_
      refine Ok.wk (Wk.tab (L := [(0, (.s (List.map Go.Cat.encI p_a))), (1, (.s (List.map Go.Cat.encI p_b))), (5, (vi (0)))]) (H' := []) ⟨Le.refl _, Le.refl _, Le.refl _, True.intro⟩ True.intro rfl) ?_
      refine Ok.block ?_
      refine Ok.loop (fun (s1 : Int) => ⟨Cat.tab [(0, (.s (List.map Go.Cat.encI p_a))), (1, (.s (List.map Go.Cat.encI p_b))), (5, (vi s1))], []⟩) (ref02_Ints_B1 p_a p_b) (s0 := 0) h (Wk.tab ⟨Le.refl _, Le.refl _, Le.refl _, True.intro⟩ True.intro rfl) ?_
      intro s1 y1 hB1 hy1
      unfold ref02_Ints_B1 at hB1
      refine Ok.seq ?_
      refine Ok.seq ?_
      refine Ok.region Tryz.tok ?_
      refine ⟨_, List.length_map _, fun _ => ?_⟩
      refine Ok.wk (Wk.tab (L := [(0, (.s (List.map Go.Cat.encI p_a))), (1, (.s (List.map Go.Cat.encI p_b))), (5, (vi s1)), (14, (vb ((decide (s1 < (p_a.length : Int))))))]) (H' := []) ⟨Le.refl _, Le.refl _, Le.refl _, Le.refl _, True.intro⟩ True.intro rfl) ?_
      refine Ok.cond (d := 14) (b := (decide (s1 < (p_a.length : Int)))) rfl hB1 (fun hb hB1 => ?_) fun hb hB1 => ?_
      · refine Ok.skip ?_
        refine Ok.seq ?_
        refine Ok.block ?_
        refine Ok.seq ?_
        refine Ok.draw (m := 9) (MD := ⟨[]⟩) (CH := ⟨[]⟩) Tryz.tok Tryz.mixed (by kernel_rfl) ?_
        obtain ⟨x1, hx1, hB1⟩ := bindS hB1
        obtain ⟨x2, hx2, hB1⟩ := bindS hB1
        refine ⟨_, rfl, ⟨_, rfl, ⟨_, ⟨_, idx_nat hx1, _, idx_row hx1, rfl⟩, ⟨_, ⟨_, rfl, rfl⟩, ⟨_, rfl, ⟨_, rfl, ⟨_, ⟨_, idx_nat hx2, _, idx_row hx2, rfl⟩, ⟨_, ⟨_, rfl, rfl⟩, ⟨_, rfl, ⟨True.intro, ?_⟩⟩⟩⟩⟩⟩⟩⟩⟩⟩
        refine Ok.wk (Wk.tab (L := [(0, (.s (List.map Go.Cat.encI p_a))), (1, (.s (List.map Go.Cat.encI p_b))), (5, (vi s1)), (25, (vb ((x1 != x2))))]) (H' := []) ⟨Le.refl _, Le.refl _, Le.refl _, Le.refl _, True.intro⟩ True.intro rfl) ?_
        refine Ok.cond (d := 25) (b := (x1 != x2)) rfl hB1 (fun hb hB1 => ?_) fun hb hB1 => ?_
        · refine Ok.seq ?_
          refine Ok.region Tryz.tok ?_
          refine Ok.wk (Wk.tab (L := [(4, (vb false))]) (H' := []) ⟨Le.refl _, True.intro⟩ True.intro rfl) ?_
          refine Ok.ret ?_
          have hB1 := out_ret hB1 hy1
          cases hB1
          exact Fz.v
        · refine Ok.skip ?_
          refine Ok.region Tryz.tok ?_
          obtain ⟨hc1, hB1⟩ := chk_some hB1
          refine (Or.inl ⟨hc1, ?_⟩)
          exact ⟨_, (Option.some.inj hB1).symm, Wk.tab ⟨Le.refl _, Le.refl _, Le.refl _, True.intro⟩ True.intro rfl⟩
      · refine Ok.exit ?_
        have hB1 := out_ret hB1 hy1
        exact ⟨_, hB1, Wk.tab True.intro True.intro rfl⟩
    intro v1 h
    unfold ref02_Ints_J1 at h
    refine Ok.seq ?_
    refine Ok.region Tryz.tok ?_
    refine Ok.wk (Wk.tab (L := [(4, (vb true))]) (H' := []) ⟨Le.refl _, True.intro⟩ True.intro rfl) ?_
    refine Ok.ret ?_
    cases h
    exact Fz.v

theorem w_ref29_SameRooms {p_a : List api_Room} {p_b : List api_Room} {r : Bool} (h : ref29_SameRooms p_a p_b = some r) : Pure Tryz.prog 15 [(.s (List.map c_api_Room p_a)), (.s (List.map c_api_Room p_b))] (vb r) := by
  refine pure_of_ok (n := 26) (c := (Tryz.f15.body.getD .skip)) Tryz.tok Tryz.func15 (by kernel_rfl) rfl rfl (Nat.le_of_ble_eq_true rfl) ?_
  unfold ref29_SameRooms at h
  refine Ok.wk (Wk.tab (L := [(0, (.s (List.map c_api_Room p_a))), (1, (.s (List.map c_api_Room p_b)))]) (H' := []) ⟨Le.refl _, Le.refl _, True.intro⟩ True.intro rfl) ?_
  refine Ok.seq ?_
  refine Ok.region Tryz.tok ?_
  refine Ok.wk (Wk.tab (L := [(0, (.s (List.map c_api_Room p_a))), (1, (.s (List.map c_api_Room p_b)))]) (H' := []) ⟨Le.refl _, Le.refl _, True.intro⟩ True.intro rfl) ?_
  refine Ok.seq ?_
  refine Ok.seq ?_
  refine Ok.region Tryz.tok ?_
  refine ⟨_, List.length_map _, fun _ => ⟨_, List.length_map _, fun _ => ?_⟩⟩
  refine Ok.wk (Wk.tab (L := [(0, (.s (List.map c_api_Room p_a))), (1, (.s (List.map c_api_Room p_b))), (10, (vb (((p_a.length : Int) != (p_b.length : Int)))))]) (H' := []) ⟨Le.refl _, Le.refl _, Le.refl _, True.intro⟩ True.intro rfl) ?_
  refine Ok.cond (d := 10) (b := ((p_a.length : Int) != (p_b.length : Int))) rfl h (fun hb h => ?_) fun hb h => ?_
  · refine Ok.seq ?_
    refine Ok.region Tryz.tok ?_
    refine Ok.wk (Wk.tab (L := [(4, (vb false))]) (H' := []) ⟨Le.refl _, True.intro⟩ True.intro rfl) ?_
    refine Ok.ret ?_
    cases h
    exact Fz.v
  · refine Ok.skip ?_
    refine Ok.seqj (fun v1 => ⟨Cat.tab [], []⟩) (fun v1 => ref29_SameRooms_J1 v1 = some r) ?_ ?_
    · refine Ok.seq ?_
      refine Ok.region Tryz.tok ?_
      refine Ok.wk (Wk.tab (L := [(0, (.s (List.map c_api_Room p_a))), (1, (.s (List.map c_api_Room p_b))), (5, (vi (0)))]) (H' := []) ⟨Le.refl _, Le.refl _, Le.refl _, True.intro⟩ True.intro rfl) ?_
      refine Ok.block ?_
      refine Ok.loop (fun (s1 : Int) => ⟨Cat.tab [(0, (.s (List.map c_api_Room p_a))), (1, (.s (List.map c_api_Room p_b))), (5, (vi s1))], []⟩) (ref29_SameRooms_B1 p_a p_b) (s0 := 0) h (Wk.tab ⟨Le.refl _, Le.refl _, Le.refl _, True.intro⟩ True.intro rfl) ?_
      intro s1 y1 hB1 hy1
      unfold ref29_SameRooms_B1 at hB1
      refine Ok.seq ?_
      refine Ok.seq ?_
      refine Ok.region Tryz.tok ?_
      refine ⟨_, List.length_map _, fun _ => ?_⟩
      refine Ok.wk (Wk.tab (L := [(0, (.s (List.map c_api_Room p_a))), (1, (.s (List.map c_api_Room p_b))), (5, (vi s1)), (14, (vb ((decide (s1 < (p_a.length : Int))))))]) (H' := []) ⟨Le.refl _, Le.refl _, Le.refl _, Le.refl _, True.intro⟩ True.intro rfl) ?_
      refine Ok.cond (d := 14) (b := (decide (s1 < (p_a.length : Int)))) rfl hB1 (fun hb hB1 => ?_) fun hb hB1 => ?_
      · refine Ok.skip ?_
        refine Ok.seq ?_
        refine Ok.block ?_
        refine Ok.seq ?_
        refine Ok.draw (m := 9) (MD := ⟨[]⟩) (CH := ⟨[]⟩) Tryz.tok Tryz.mixed (by kernel_rfl) ?_
        obtain ⟨x1, hx1, hB1⟩ := bindS hB1
        obtain ⟨x2, hx2, hB1⟩ := bindS hB1
        refine ⟨_, rfl, ⟨_, rfl, ⟨_, ⟨_, idx_nat hx1, _, idx_row hx1, rfl⟩, ⟨_, ⟨_, rfl, rfl⟩, ⟨_, rfl, ⟨_, rfl, ⟨_, ⟨_, idx_nat hx2, _, idx_row hx2, rfl⟩, ⟨_, ⟨_, rfl, rfl⟩, ⟨_, ⟨[.int .i64, .int .i64, .int .i64], by kernel_rfl, rfl⟩, ⟨True.intro, ?_⟩⟩⟩⟩⟩⟩⟩⟩⟩⟩
        refine Ok.wk (Wk.tab (L := [(0, (.s (List.map c_api_Room p_a))), (1, (.s (List.map c_api_Room p_b))), (5, (vi s1)), (25, (vb ((!(x1.Id == x2.Id && (x1.Ino == x2.Ino && (x1.Client == x2.Client && true)))))))]) (H' := []) ⟨Le.refl _, Le.refl _, Le.refl _, Le.refl _, True.intro⟩ True.intro rfl) ?_
        refine Ok.cond (d := 25) (b := (!(x1.Id == x2.Id && (x1.Ino == x2.Ino && (x1.Client == x2.Client && true))))) rfl hB1 (fun hb hB1 => ?_) fun hb hB1 => ?_
        · refine Ok.seq ?_
          refine Ok.region Tryz.tok ?_
          refine Ok.wk (Wk.tab (L := [(4, (vb false))]) (H' := []) ⟨Le.refl _, True.intro⟩ True.intro rfl) ?_
          refine Ok.ret ?_
          have hB1 := out_ret hB1 hy1
          cases hB1
          exact Fz.v
        · refine Ok.skip ?_
          refine Ok.region Tryz.tok ?_
          obtain ⟨hc1, hB1⟩ := chk_some hB1
          refine (Or.inl ⟨hc1, ?_⟩)
          exact ⟨_, (Option.some.inj hB1).symm, Wk.tab ⟨Le.refl _, Le.refl _, Le.refl _, True.intro⟩ True.intro rfl⟩
      · refine Ok.exit ?_
        have hB1 := out_ret hB1 hy1
        exact ⟨_, hB1, Wk.tab True.intro True.intro rfl⟩
    intro v1 h
    unfold ref29_SameRooms_J1 at h
    refine Ok.seq ?_
    refine Ok.region Tryz.tok ?_
    refine Ok.wk (Wk.tab (L := [(4, (vb true))]) (H' := []) ⟨Le.refl _, True.intro⟩ True.intro rfl) ?_
    refine Ok.ret ?_
    cases h
    exact Fz.v

theorem w_law29_head [Off] {r : Bool} (h : law29_head = some r) : Pure Tryz.prog 5 [] (vb r) := by
  refine pure_of_ok (n := 86) (c := (Tryz.f5.body.getD .skip)) Tryz.tok Tryz.func5 (by kernel_rfl) rfl rfl (Nat.le_of_ble_eq_true rfl) ?_
  unfold law29_head at h
  refine Ok.wk (Wk.tab (L := []) (H' := []) True.intro True.intro rfl) ?_
  refine Ok.seq ?_
  refine Ok.region Tryz.tok ?_
  refine Ok.wk (Wk.tab (L := []) (H' := []) True.intro True.intro rfl) ?_
  refine Ok.seq ?_
  refine Ok.region Tryz.tok ?_
  obtain ⟨x1, hx1, h⟩ := bindS h
  refine Or.inl ?_
  refine CallOk.call (w_law29_on hx1) (LeL.refl _) ?_
  obtain ⟨x2, hx2, h⟩ := bindS h
  refine Or.inl ?_
  refine CallOk.call (w_law29_on hx2) (LeL.refl _) ?_
  refine Or.inl ?_
  refine Ok.wk (Wk.tab (L := [(1, (.s (List.map c_api_Disk ([x1, x2]))))]) (H' := []) ⟨Le.refl _, True.intro⟩ True.intro rfl) ?_
  refine Ok.seq ?_
  refine Ok.region Tryz.tok ?_
  refine Or.inl ?_
  refine Ok.wk (Wk.tab (L := [(1, (.s (List.map c_api_Disk ([x1, x2])))), (2, (.s (List.map c_api_Named ([(⟨7, 0, 0, 5⟩ : api_Named), (⟨7, 2, 0, 1⟩ : api_Named), (⟨8, 0, 1, 5⟩ : api_Named)]))))]) (H' := []) ⟨Le.refl _, Le.refl _, True.intro⟩ True.intro rfl) ?_
  refine Ok.seq ?_
  refine Ok.region Tryz.tok ?_
  refine Or.inl ?_
  refine Ok.wk (Wk.tab (L := [(1, (.s (List.map c_api_Disk ([x1, x2])))), (2, (.s (List.map c_api_Named ([(⟨7, 0, 0, 5⟩ : api_Named), (⟨7, 2, 0, 1⟩ : api_Named), (⟨8, 0, 1, 5⟩ : api_Named)])))), (3, (.s (List.map c_api_Room ([(⟨2, 7, 3⟩ : api_Room), (⟨4, 7, 4⟩ : api_Room)]))))]) (H' := []) ⟨Le.refl _, Le.refl _, Le.refl _, True.intro⟩ True.intro rfl) ?_
  refine Ok.seq ?_
  refine Ok.region Tryz.tok ?_
  refine Or.inl ?_
  refine Ok.wk (Wk.tab (L := [(1, (.s (List.map c_api_Disk ([x1, x2])))), (2, (.s (List.map c_api_Named ([(⟨7, 0, 0, 5⟩ : api_Named), (⟨7, 2, 0, 1⟩ : api_Named), (⟨8, 0, 1, 5⟩ : api_Named)])))), (3, (.s (List.map c_api_Room ([(⟨2, 7, 3⟩ : api_Room), (⟨4, 7, 4⟩ : api_Room)])))), (4, (.s (List.map c_api_Lease ([(⟨3, 7, 2, (⟨0, 0⟩ : api_Span), 9, 0⟩ : api_Lease), (⟨4, 7, 1, (⟨0, 0⟩ : api_Span), 99, 0⟩ : api_Lease)]))))]) (H' := []) ⟨Le.refl _, Le.refl _, Le.refl _, Le.refl _, True.intro⟩ True.intro rfl) ?_
  refine Ok.seq ?_
  refine Ok.region Tryz.tok ?_
  obtain ⟨x3, hx3, h⟩ := bindS h
  refine CallOk.call (w_sweep_Sweep hx3) (LeL.refl _) ?_
  refine Ok.wk (Wk.tab (L := [(1, (.s (List.map c_api_Disk ([x1, x2])))), (2, (.s (List.map c_api_Named ([(⟨7, 0, 0, 5⟩ : api_Named), (⟨7, 2, 0, 1⟩ : api_Named), (⟨8, 0, 1, 5⟩ : api_Named)])))), (3, (.s (List.map c_api_Room ([(⟨2, 7, 3⟩ : api_Room), (⟨4, 7, 4⟩ : api_Room)])))), (4, (.s (List.map c_api_Lease ([(⟨3, 7, 2, (⟨0, 0⟩ : api_Span), 9, 0⟩ : api_Lease), (⟨4, 7, 1, (⟨0, 0⟩ : api_Span), 99, 0⟩ : api_Lease)])))), (5, (.s (List.map c_api_Disk x3.1))), (6, (.s (List.map c_api_Room x3.2)))]) (H' := []) ⟨Le.refl _, Le.refl _, Le.refl _, Le.refl _, Le.refl _, Le.refl _, True.intro⟩ True.intro rfl) ?_
  refine Ok.seq ?_
  refine Ok.seq ?_
  refine Ok.region Tryz.tok ?_
  refine ⟨_, List.length_map _, fun _ => ?_⟩
  refine Ok.wk (Wk.tab (L := [(1, (.s (List.map c_api_Disk ([x1, x2])))), (2, (.s (List.map c_api_Named ([(⟨7, 0, 0, 5⟩ : api_Named), (⟨7, 2, 0, 1⟩ : api_Named), (⟨8, 0, 1, 5⟩ : api_Named)])))), (3, (.s (List.map c_api_Room ([(⟨2, 7, 3⟩ : api_Room), (⟨4, 7, 4⟩ : api_Room)])))), (4, (.s (List.map c_api_Lease ([(⟨3, 7, 2, (⟨0, 0⟩ : api_Span), 9, 0⟩ : api_Lease), (⟨4, 7, 1, (⟨0, 0⟩ : api_Span), 99, 0⟩ : api_Lease)])))), (5, (.s (List.map c_api_Disk x3.1))), (6, (.s (List.map c_api_Room x3.2))), (32, (vb (((x3.1.length : Int) != 2))))]) (H' := []) ⟨Le.refl _, Le.refl _, Le.refl _, Le.refl _, Le.refl _, Le.refl _, Le.refl _, True.intro⟩ True.intro rfl) ?_
  refine Ok.cond (d := 32) (b := ((x3.1.length : Int) != 2)) rfl h (fun hb h => ?_) fun hb h => ?_
  · refine Ok.seq ?_
    refine Ok.region Tryz.tok ?_
    refine Ok.wk (Wk.tab (L := [(0, (vb false))]) (H' := []) ⟨Le.refl _, True.intro⟩ True.intro rfl) ?_
    refine Ok.ret ?_
    cases h
    exact Fz.v
  · refine Ok.skip ?_
    obtain ⟨v1, hv1, h⟩ := bindS h
    refine Ok.seqw ⟨Cat.tab [(0, (vb v1))], []⟩ ?_ ?_
    · refine Ok.region Tryz.tok ?_
      obtain ⟨x4, hx4, hv1⟩ := bindS hv1
      refine CallOk.norm (L := [(1, (.s (List.map c_api_Disk ([x1, x2])))), (2, (.s (List.map c_api_Named ([(⟨7, 0, 0, 5⟩ : api_Named), (⟨7, 2, 0, 1⟩ : api_Named), (⟨8, 0, 1, 5⟩ : api_Named)])))), (3, (.s (List.map c_api_Room ([(⟨2, 7, 3⟩ : api_Room), (⟨4, 7, 4⟩ : api_Room)])))), (4, (.s (List.map c_api_Lease ([(⟨3, 7, 2, (⟨0, 0⟩ : api_Span), 9, 0⟩ : api_Lease), (⟨4, 7, 1, (⟨0, 0⟩ : api_Span), 99, 0⟩ : api_Lease)])))), (5, (.s (List.map c_api_Disk x3.1))), (6, (.s (List.map c_api_Room x3.2))), (33, (.s (List.map c_api_Named ([(⟨7, 0, 0, 5⟩ : api_Named), (⟨7, 2, 0, 1⟩ : api_Named), (⟨8, 0, 1, 5⟩ : api_Named)])))), (34, (.s (List.map c_api_Room ([(⟨2, 7, 3⟩ : api_Room), (⟨4, 7, 4⟩ : api_Room)])))), (35, (.s (List.map c_api_Lease ([(⟨3, 7, 2, (⟨0, 0⟩ : api_Span), 9, 0⟩ : api_Lease), (⟨4, 7, 1, (⟨0, 0⟩ : api_Span), 99, 0⟩ : api_Lease)]))))]) (H' := []) (LeL.refl _) ⟨Le.refl _, Le.refl _, Le.refl _, Le.refl _, Le.refl _, Le.refl _, Le.refl _, Le.refl _, Le.refl _, True.intro⟩ True.intro rfl (CallOk.call (w_sweep_Keeps hx4) (LeL.refl _) ?_)
      obtain ⟨x5, hx5, hv1⟩ := bindS hv1
      refine Or.inl ?_
      refine CallOk.norm (L := [(1, (.s (List.map c_api_Disk ([x1, x2])))), (2, (.s (List.map c_api_Named ([(⟨7, 0, 0, 5⟩ : api_Named), (⟨7, 2, 0, 1⟩ : api_Named), (⟨8, 0, 1, 5⟩ : api_Named)])))), (3, (.s (List.map c_api_Room ([(⟨2, 7, 3⟩ : api_Room), (⟨4, 7, 4⟩ : api_Room)])))), (4, (.s (List.map c_api_Lease ([(⟨3, 7, 2, (⟨0, 0⟩ : api_Span), 9, 0⟩ : api_Lease), (⟨4, 7, 1, (⟨0, 0⟩ : api_Span), 99, 0⟩ : api_Lease)])))), (5, (.s (List.map c_api_Disk x3.1))), (6, (.s (List.map c_api_Room x3.2))), (36, (.s (List.map Go.Cat.encI x4))), (37, (.s (List.map Go.Cat.encI ([1, 2, 5]))))]) (H' := []) (LeL.refl _) ⟨Le.refl _, Le.refl _, Le.refl _, Le.refl _, Le.refl _, Le.refl _, Le.refl _, Le.refl _, True.intro⟩ True.intro rfl (CallOk.call (w_ref02_Ints hx5) (LeL.refl _) ?_)
      obtain ⟨c1, hg1, hv1⟩ := bindS hv1
      refine Br.ite hg1 (fun hb hg1 => ?_) fun hb hg1 => ?_
      · obtain ⟨x6, hx6, hg1⟩ := bindS hg1
        refine CallOk.norm (L := [(1, (.s (List.map c_api_Disk ([x1, x2])))), (2, (.s (List.map c_api_Named ([(⟨7, 0, 0, 5⟩ : api_Named), (⟨7, 2, 0, 1⟩ : api_Named), (⟨8, 0, 1, 5⟩ : api_Named)])))), (3, (.s (List.map c_api_Room ([(⟨2, 7, 3⟩ : api_Room), (⟨4, 7, 4⟩ : api_Room)])))), (4, (.s (List.map c_api_Lease ([(⟨3, 7, 2, (⟨0, 0⟩ : api_Span), 9, 0⟩ : api_Lease), (⟨4, 7, 1, (⟨0, 0⟩ : api_Span), 99, 0⟩ : api_Lease)])))), (5, (.s (List.map c_api_Disk x3.1))), (6, (.s (List.map c_api_Room x3.2))), (39, .v (.bool true)), (40, (.s (List.map c_api_Named ([(⟨7, 0, 0, 5⟩ : api_Named), (⟨7, 2, 0, 1⟩ : api_Named), (⟨8, 0, 1, 5⟩ : api_Named)])))), (41, (.s (List.map c_api_Room ([(⟨2, 7, 3⟩ : api_Room), (⟨4, 7, 4⟩ : api_Room)])))), (42, (.s (List.map c_api_Lease ([(⟨3, 7, 2, (⟨0, 0⟩ : api_Span), 9, 0⟩ : api_Lease), (⟨4, 7, 1, (⟨0, 0⟩ : api_Span), 99, 0⟩ : api_Lease)]))))]) (H' := []) (LeL.refl _) ⟨Le.refl _, Le.refl _, Le.refl _, Le.refl _, Le.refl _, Le.refl _, Le.refl _, Le.refl _, Le.refl _, Le.refl _, True.intro⟩ True.intro rfl (CallOk.call (w_sweep_Keeps hx6) (LeL.refl _) ?_)
        obtain ⟨x7, hx7, hg1⟩ := bindS hg1
        refine Or.inl ?_
        refine CallOk.norm (L := [(1, (.s (List.map c_api_Disk ([x1, x2])))), (2, (.s (List.map c_api_Named ([(⟨7, 0, 0, 5⟩ : api_Named), (⟨7, 2, 0, 1⟩ : api_Named), (⟨8, 0, 1, 5⟩ : api_Named)])))), (3, (.s (List.map c_api_Room ([(⟨2, 7, 3⟩ : api_Room), (⟨4, 7, 4⟩ : api_Room)])))), (4, (.s (List.map c_api_Lease ([(⟨3, 7, 2, (⟨0, 0⟩ : api_Span), 9, 0⟩ : api_Lease), (⟨4, 7, 1, (⟨0, 0⟩ : api_Span), 99, 0⟩ : api_Lease)])))), (5, (.s (List.map c_api_Disk x3.1))), (6, (.s (List.map c_api_Room x3.2))), (39, .v (.bool true)), (43, (.s (List.map Go.Cat.encI x6))), (44, (.s (List.map Go.Cat.encI ([1, 5]))))]) (H' := []) (LeL.refl _) ⟨Le.refl _, Le.refl _, Le.refl _, Le.refl _, Le.refl _, Le.refl _, Le.refl _, Le.refl _, Le.refl _, True.intro⟩ True.intro rfl (CallOk.call (w_ref02_Ints hx7) (LeL.refl _) ?_)
        cases hg1
        obtain ⟨c2, hg2, hv1⟩ := bindS hv1
        refine Br.ite hg2 (fun hb hg2 => ?_) fun hb hg2 => ?_
        · obtain ⟨x8, hx8, hg2⟩ := bindS hg2
          refine CallOk.norm (L := [(5, (.s (List.map c_api_Disk x3.1))), (6, (.s (List.map c_api_Room x3.2))), (47, .v (.bool true)), (48, (.s (List.map c_api_Named ([(⟨7, 0, 0, 5⟩ : api_Named), (⟨7, 2, 0, 1⟩ : api_Named), (⟨8, 0, 1, 5⟩ : api_Named)])))), (49, (.s (List.map c_api_Room ([(⟨2, 7, 3⟩ : api_Room), (⟨4, 7, 4⟩ : api_Room)])))), (50, (.s (List.map c_api_Lease ([(⟨3, 7, 2, (⟨0, 0⟩ : api_Span), 9, 0⟩ : api_Lease), (⟨4, 7, 1, (⟨0, 0⟩ : api_Span), 99, 0⟩ : api_Lease)])))), (51, (.s (List.map c_api_Disk ([x1, x2]))))]) (H' := []) (LeL.refl _) ⟨Le.refl _, Le.refl _, Le.refl _, Le.refl _, Le.refl _, Le.refl _, Le.refl _, True.intro⟩ True.intro rfl (CallOk.call (w_sweep_Gone hx8) (LeL.refl _) ?_)
          obtain ⟨x9, hx9, hg2⟩ := bindS hg2
          refine Or.inl ?_
          refine CallOk.norm (L := [(5, (.s (List.map c_api_Disk x3.1))), (6, (.s (List.map c_api_Room x3.2))), (47, .v (.bool true)), (52, (.s (List.map Go.Cat.encI x8))), (53, (.s (List.map Go.Cat.encI ([3, 4]))))]) (H' := []) (LeL.refl _) ⟨Le.refl _, Le.refl _, Le.refl _, Le.refl _, Le.refl _, True.intro⟩ True.intro rfl (CallOk.call (w_ref02_Ints hx9) (LeL.refl _) ?_)
          cases hg2
          obtain ⟨c3, hg3, hv1⟩ := bindS hv1
          refine Br.ite hg3 (fun hb hg3 => ?_) fun hb hg3 => ?_
          · obtain ⟨x10, hx10, hg3⟩ := bindS hg3
            obtain ⟨x11, hx11, hg3⟩ := bindS hg3
            refine ⟨_, idx_nat hx10, _, idx_row hx10, ⟨_, rfl, ?_⟩⟩
            refine CallOk.norm (L := [(5, (.s (List.map c_api_Disk x3.1))), (6, (.s (List.map c_api_Room x3.2))), (56, .v (.bool true)), (59, (.a [(.s (List.map c_api_Page x10.Synced)), (.s (List.map c_api_Page x10.Loose)), (vb x10.Down)]))]) (H' := []) (LeL.refl _) ⟨Le.refl _, Le.refl _, Le.refl _, Le.refl _, True.intro⟩ True.intro rfl (CallOk.call (w_chunk_Has hx11) (LeL.refl _) ?_)
            obtain ⟨x12, hx12, hg3⟩ := bindS hg3
            refine Or.inl ?_
            refine CallOk.norm (L := [(5, (.s (List.map c_api_Disk x3.1))), (6, (.s (List.map c_api_Room x3.2))), (56, .v (.bool true)), (60, (.s (List.map Go.Cat.encI x11))), (61, (.s (List.map Go.Cat.encI ([1, 2]))))]) (H' := []) (LeL.refl _) ⟨Le.refl _, Le.refl _, Le.refl _, Le.refl _, Le.refl _, True.intro⟩ True.intro rfl (CallOk.call (w_ref02_Ints hx12) (LeL.refl _) ?_)
            cases hg3
            obtain ⟨c4, hg4, hv1⟩ := bindS hv1
            refine Br.ite hg4 (fun hb hg4 => ?_) fun hb hg4 => ?_
            · obtain ⟨x13, hx13, hg4⟩ := bindS hg4
              obtain ⟨x14, hx14, hg4⟩ := bindS hg4
              refine ⟨_, idx_nat hx13, _, idx_row hx13, ⟨_, rfl, ?_⟩⟩
              refine CallOk.norm (L := [(5, (.s (List.map c_api_Disk x3.1))), (6, (.s (List.map c_api_Room x3.2))), (64, .v (.bool true)), (67, (.a [(.s (List.map c_api_Page x13.Synced)), (.s (List.map c_api_Page x13.Loose)), (vb x13.Down)]))]) (H' := []) (LeL.refl _) ⟨Le.refl _, Le.refl _, Le.refl _, Le.refl _, True.intro⟩ True.intro rfl (CallOk.call (w_chunk_Has hx14) (LeL.refl _) ?_)
              obtain ⟨x15, hx15, hg4⟩ := bindS hg4
              refine Or.inl ?_
              refine CallOk.norm (L := [(5, (.s (List.map c_api_Disk x3.1))), (6, (.s (List.map c_api_Room x3.2))), (64, .v (.bool true)), (68, (.s (List.map Go.Cat.encI x14))), (69, (.s (List.map Go.Cat.encI ([5]))))]) (H' := []) (LeL.refl _) ⟨Le.refl _, Le.refl _, Le.refl _, Le.refl _, Le.refl _, True.intro⟩ True.intro rfl (CallOk.call (w_ref02_Ints hx15) (LeL.refl _) ?_)
              cases hg4
              obtain ⟨c5, hg5, hv1⟩ := bindS hv1
              refine Br.ite hg5 (fun hb hg5 => ?_) fun hb hg5 => ?_
              · obtain ⟨x16, hx16, hg5⟩ := bindS hg5
                refine Or.inl ?_
                refine CallOk.norm (L := [(5, (.s (List.map c_api_Disk x3.1))), (72, .v (.bool true)), (73, (.s (List.map c_api_Room x3.2))), (75, (.s (List.map c_api_Room ([(⟨2, 7, 3⟩ : api_Room)]))))]) (H' := []) (LeL.refl _) ⟨Le.refl _, Le.refl _, Le.refl _, Le.refl _, True.intro⟩ True.intro rfl (CallOk.call (w_ref29_SameRooms hx16) (LeL.refl _) ?_)
                cases hg5
                obtain ⟨c6, hg6, hv1⟩ := bindS hv1
                refine Br.ite hg6 (fun hb hg6 => ?_) fun hb hg6 => ?_
                · obtain ⟨x17, hx17, hg6⟩ := bindS hg6
                  refine ⟨_, idx_nat hx17, _, idx_row hx17, ⟨_, rfl, ⟨_, List.length_map _, fun _ => ?_⟩⟩⟩
                  cases hg6
                  cases hv1
                  exact Wk.tab ⟨Le.refl _, True.intro⟩ True.intro rfl
                · cases hg6
                  cases hv1
                  exact Wk.tab ⟨Le.refl _, True.intro⟩ True.intro rfl
              · cases hg5
                obtain ⟨c6, hg7, hv1⟩ := bindS hv1
                replace hg7 := iteF hg7
                cases hg7
                cases hv1
                exact Wk.tab ⟨Le.refl _, True.intro⟩ True.intro rfl
            · cases hg4
              obtain ⟨c5, hg8, hv1⟩ := bindS hv1
              replace hg8 := iteF hg8
              cases hg8
              obtain ⟨c6, hg9, hv1⟩ := bindS hv1
              replace hg9 := iteF hg9
              cases hg9
              cases hv1
              exact Wk.tab ⟨Le.refl _, True.intro⟩ True.intro rfl
          · cases hg3
            obtain ⟨c4, hg10, hv1⟩ := bindS hv1
            replace hg10 := iteF hg10
            cases hg10
            obtain ⟨c5, hg11, hv1⟩ := bindS hv1
            replace hg11 := iteF hg11
            cases hg11
            obtain ⟨c6, hg12, hv1⟩ := bindS hv1
            replace hg12 := iteF hg12
            cases hg12
            cases hv1
            exact Wk.tab ⟨Le.refl _, True.intro⟩ True.intro rfl
        · cases hg2
          obtain ⟨c3, hg13, hv1⟩ := bindS hv1
          replace hg13 := iteF hg13
          cases hg13
          obtain ⟨c4, hg14, hv1⟩ := bindS hv1
          replace hg14 := iteF hg14
          cases hg14
          obtain ⟨c5, hg15, hv1⟩ := bindS hv1
          replace hg15 := iteF hg15
          cases hg15
          obtain ⟨c6, hg16, hv1⟩ := bindS hv1
          replace hg16 := iteF hg16
          cases hg16
          cases hv1
          exact Wk.tab ⟨Le.refl _, True.intro⟩ True.intro rfl
      · cases hg1
        obtain ⟨c2, hg17, hv1⟩ := bindS hv1
        replace hg17 := iteF hg17
        cases hg17
        obtain ⟨c3, hg18, hv1⟩ := bindS hv1
        replace hg18 := iteF hg18
        cases hg18
        obtain ⟨c4, hg19, hv1⟩ := bindS hv1
        replace hg19 := iteF hg19
        cases hg19
        obtain ⟨c5, hg20, hv1⟩ := bindS hv1
        replace hg20 := iteF hg20
        cases hg20
        obtain ⟨c6, hg21, hv1⟩ := bindS hv1
        replace hg21 := iteF hg21
        cases hg21
        cases hv1
        exact Wk.tab ⟨Le.refl _, True.intro⟩ True.intro rfl
    refine Ok.ret ?_
    cases h
    exact Fz.v

theorem w_ref04_Page {p_p : api_Page} {r : Bool} (h : ref04_Page p_p = some r) : Pure Tryz.prog 100 [(.a [(vi p_p.At), (.s (List.map cU8 p_p.Data))])] (vb r) := by
  refine pure_of_ok (n := 17) (c := (Tryz.f100.body.getD .skip)) Tryz.tok Tryz.func100 (by kernel_rfl) rfl rfl (Nat.le_of_ble_eq_true rfl) ?_
  unfold ref04_Page at h
  refine Ok.wk (Wk.tab (L := [(0, (.a [(vi p_p.At), (.s (List.map cU8 p_p.Data))]))]) (H' := []) ⟨Le.refl _, True.intro⟩ True.intro rfl) ?_
  refine Ok.seq ?_
  refine Ok.region Tryz.tok ?_
  refine Ok.wk (Wk.tab (L := [(1, (.b 1 0))]) (H' := [(1, .box [(vi p_p.At), (.s (List.map cU8 p_p.Data))])]) ⟨Le.refl _, True.intro⟩ ⟨⟨_, rfl, .refl _⟩, True.intro⟩ rfl) ?_
  obtain ⟨v1, hv1, h⟩ := bindS h
  refine Ok.seqw ⟨Cat.tab [(2, (vb v1))], []⟩ ?_ ?_
  · refine Ok.region Tryz.tok ?_
    refine ⟨_, rfl, ?_⟩
    obtain ⟨c1, hg1, hv1⟩ := bindS hv1
    refine Br.ite hg1 (fun hb hg1 => ?_) fun hb hg1 => ?_
    · refine ⟨_, rfl, ?_⟩
      cases hg1
      obtain ⟨c2, hg2, hv1⟩ := bindS hv1
      refine Br.ite hg2 (fun hb hg2 => ?_) fun hb hg2 => ?_
      · refine ⟨_, rfl, ⟨_, List.length_map _, fun _ => ?_⟩⟩
        cases hg2
        cases hv1
        exact Wk.tab ⟨Le.refl _, True.intro⟩ True.intro rfl
      · cases hg2
        cases hv1
        exact Wk.tab ⟨Le.refl _, True.intro⟩ True.intro rfl
    · cases hg1
      obtain ⟨c2, hg3, hv1⟩ := bindS hv1
      replace hg3 := iteF hg3
      cases hg3
      cases hv1
      exact Wk.tab ⟨Le.refl _, True.intro⟩ True.intro rfl
  refine Ok.ret ?_
  cases h
  exact Fz.v
end Go.Proofs
