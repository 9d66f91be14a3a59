/- The walks of this seat beside the plain programs, part 1. No condition. -/
import Derived.Test.YthhoomhekolbnaaXLeaseHasEn
import Derived.Test.YthhoomhekolbnaaXLeaseHasWk0
namespace Go.Proofs
set_option linter.all false
open Go Go.Cat
variable [M : Mono]
set_option maxRecDepth 100000

theorem wo_span_asked_of__span_Cut_1 {p_a : List api_Span} {p_b : List api_Span} {r : (List api_Span)} (h : span_asked_of__span_Cut_1 p_a p_b = some r) : POwn Try.prog 64 [(.a [(.c (.func 63) [] [])]), (.s (List.map c_api_Span p_a)), (.s (List.map c_api_Span p_b))] 24 2 (List.map c_api_Span r) := by
  refine pown_of_ok (n := 87) (c := (Try.f64.body.getD .skip)) Try.tok Try.func64 (by kernel_rfl) rfl rfl (Nat.le_of_ble_eq_true rfl) ?_
  unfold span_asked_of__span_Cut_1 at h
  refine Ok.wk (Wk.tab (L := [(0, (.a [(.c (.func 63) [] [])])), (1, (.s (List.map c_api_Span p_a))), (2, (.s (List.map c_api_Span p_b)))]) (H' := []) ⟨Le.refl _, Le.refl _, Le.refl _, True.intro⟩ True.intro rfl) ?_
  refine Ok.seq ?_
  refine Ok.region Try.tok ?_
  refine Ok.wk (Wk.tab (L := [(1, (.s (List.map c_api_Span p_a))), (2, (.s (List.map c_api_Span p_b))), (3, (.b 3 0))]) (H' := [(3, .box [(.c (.func 63) [] [])])]) ⟨Le.refl _, Le.refl _, Le.refl _, True.intro⟩ ⟨⟨_, rfl, .refl _⟩, True.intro⟩ rfl) ?_
  refine Ok.seq ?_
  refine Ok.region Try.tok ?_
  obtain ⟨x1, hx1, h⟩ := bindS h
  refine CallOk.own (D := 16) (wo_span_edges hx1) (LeL.refl _) rfl ?_
  obtain ⟨x2, hx2, h⟩ := bindS h
  refine CallOk.call (w_span_edges hx2) (LeL.refl _) ?_
  obtain ⟨hc1, h⟩ := chk_some h
  refine ⟨rowsLen_map (f := c_span_edge) (n := 3) (fun _ => rfl) x2, app_b2 (f := c_span_edge) (l := x1) (l' := x2) hc1, _, (List.map_append (f := c_span_edge) (l₁ := x1) (l₂ := x2)).symm, ?_⟩
  refine Ok.wk (Wk.tab (L := [(3, (.b 3 0)), (7, (.o 16))]) (H' := [(3, .box [(.c (.func 63) [] [])]), (16, .own 87 3 (List.map c_span_edge ((x1 ++ x2))))]) ⟨Le.refl _, Le.refl _, True.intro⟩ ⟨⟨_, rfl, .refl _⟩, ⟨_, rfl, .refl _⟩, True.intro⟩ rfl) ?_
  refine Ok.seq ?_
  refine Ok.region Try.tok ?_
  obtain ⟨x3, hx3, h⟩ := bindS h
  refine CallOk.chgLe (id := 16) (pchg_sortF (E := 87) (enc := c_span_edge) Try.says71 Try.enters71 (fun _ => rfl) (fun _ => rfl) (fun _ _ _ h => w_span_asked_of_1 (M := Mono.yes) h) (enters_of Try.func72 (by kernel_rfl) rfl) hx3) rfl (.refl _) rfl (.cons Lr.o (.cons (Lr.imm rfl) .nil)) ?_
  rintro _ _ ⟨rfl, rfl⟩
  refine Ok.wk (Wk.tab (L := [(3, (.b 3 0)), (7, (.o 16))]) (H' := [(3, .box [(.c (.func 63) [] [])]), (16, .own 87 3 (List.map c_span_edge x3))]) ⟨Le.refl _, Le.refl _, True.intro⟩ ⟨⟨_, rfl, .refl _⟩, ⟨_, rfl, .refl _⟩, True.intro⟩ rfl) ?_
  refine Ok.seq ?_
  refine Ok.region Try.tok ?_
  refine Ok.wk (Wk.tab (L := [(3, (.b 3 0)), (7, (.o 16)), (8, (.v (.slice none 0 0)))]) (H' := [(3, .box [(.c (.func 63) [] [])]), (16, .own 87 3 (List.map c_span_edge x3))]) ⟨Le.refl _, Le.refl _, Le.refl _, True.intro⟩ ⟨⟨_, rfl, .refl _⟩, ⟨_, rfl, .refl _⟩, True.intro⟩ rfl) ?_
  refine Ok.seq ?_
  refine Ok.region Try.tok ?_
  refine Ok.wk (Wk.tab (L := [(3, (.b 3 0)), (7, (.o 16)), (8, (.v (.slice none 0 0))), (9, (.b 9 0))]) (H' := [(3, .box [(.c (.func 63) [] [])]), (16, .own 87 3 (List.map c_span_edge x3)), (9, .box (List.map vi ((List.replicate 2 0))))]) ⟨Le.refl _, Le.refl _, Le.refl _, Le.refl _, True.intro⟩ ⟨⟨_, rfl, .refl _⟩, ⟨_, rfl, .refl _⟩, ⟨_, rfl, .refl _⟩, True.intro⟩ rfl) ?_
  refine Ok.seq ?_
  refine Ok.region Try.tok ?_
  refine Ok.wk (Wk.tab (L := [(3, (.b 3 0)), (7, (.o 16)), (8, (.v (.slice none 0 0))), (9, (.b 9 0)), (10, (vi ((-1))))]) (H' := [(3, .box [(.c (.func 63) [] [])]), (16, .own 87 3 (List.map c_span_edge x3)), (9, .box (List.map vi ((List.replicate 2 0))))]) ⟨Le.refl _, Le.refl _, Le.refl _, Le.refl _, Le.refl _, True.intro⟩ ⟨⟨_, rfl, .refl _⟩, ⟨_, rfl, .refl _⟩, ⟨_, rfl, .refl _⟩, True.intro⟩ rfl) ?_
  obtain ⟨v1, hv1, h⟩ := bindS h
  refine Ok.seqw ⟨Cat.tab [(8, (.o 84))], [(84, .own 24 2 (List.map c_api_Span v1))]⟩ ?_ ?_
  · refine Ok.seq ?_
    refine Ok.region Try.tok ?_
    refine ⟨_, List.length_map _, fun _ => ?_⟩
    refine Ok.wk (Wk.tab (L := [(3, (.b 3 0)), (7, (.o 16)), (8, (.v (.slice none 0 0))), (9, (.b 9 0)), (10, (vi ((-1)))), (22, (.o 16)), (23, (vi ((x3.length : Int)))), (24, (vi (0)))]) (H' := [(3, .box [(.c (.func 63) [] [])]), (16, .own 87 3 (List.map c_span_edge x3)), (9, .box (List.map vi ((List.replicate 2 0))))]) ⟨Le.refl _, Le.refl _, Le.refl _, Le.refl _, Le.refl _, Le.refl _, Le.refl _, Le.refl _, True.intro⟩ ⟨⟨_, rfl, .refl _⟩, ⟨_, rfl, .refl _⟩, ⟨_, rfl, .refl _⟩, True.intro⟩ rfl) ?_
    refine Ok.block ?_
    refine Ok.loop (fun (s1 : Int × Int × (List api_Span) × (List Int)) => ⟨Cat.tab [(3, (.b 3 0)), (7, (.o 16)), (8, (.o 84)), (9, (.b 9 0)), (10, (vi s1.1)), (22, (.o 16)), (23, (vi ((x3.length : Int)))), (24, (vi s1.2.1))], [(3, .box [(.c (.func 63) [] [])]), (16, .own 87 3 (List.map c_span_edge x3)), (84, .own 24 2 (List.map c_api_Span s1.2.2.1)), (9, .box (List.map vi s1.2.2.2))]⟩) (span_asked_of__span_Cut_1_B1 x3) (s0 := ((-1), 0, [], (List.replicate 2 0))) hv1 ((Wk.own0 (t := 8) (id := 84) (E := 24) (K := 2) rfl rfl).trans (Wk.tab ⟨Le.refl _, Le.refl _, Le.refl _, Le.refl _, Le.refl _, Le.refl _, Le.refl _, Le.refl _, True.intro⟩ ⟨⟨_, rfl, .refl _⟩, ⟨_, rfl, .refl _⟩, ⟨_, rfl, .refl _⟩, ⟨_, rfl, .arr1 (fun _ _ => rfl)⟩, True.intro⟩ rfl)) ?_
    intro s1 y1 hB1 hy1
    unfold span_asked_of__span_Cut_1_B1 at hB1
    refine Ok.seq ?_
    refine Ok.region Try.tok ?_
    refine Ok.wk (Wk.tab (L := [(3, (.b 3 0)), (7, (.o 16)), (8, (.o 84)), (9, (.b 9 0)), (10, (vi s1.1)), (22, (.o 16)), (23, (vi ((x3.length : Int)))), (24, (vi s1.2.1)), (25, (vb ((decide (s1.2.1 < (x3.length : Int))))))]) (H' := [(3, .box [(.c (.func 63) [] [])]), (16, .own 87 3 (List.map c_span_edge x3)), (84, .own 24 2 (List.map c_api_Span s1.2.2.1)), (9, .box (List.map vi s1.2.2.2))]) ⟨Le.refl _, Le.refl _, Le.refl _, Le.refl _, Le.refl _, Le.refl _, Le.refl _, Le.refl _, Le.refl _, True.intro⟩ ⟨⟨_, rfl, .refl _⟩, ⟨_, rfl, .refl _⟩, ⟨_, rfl, .refl _⟩, ⟨_, rfl, .refl _⟩, True.intro⟩ rfl) ?_
    refine Ok.seq ?_
    refine Ok.cond (d := 25) (b := (decide (s1.2.1 < (x3.length : Int)))) rfl hB1 (fun hb hB1 => ?_) fun hb hB1 => ?_
    · refine Ok.skip ?_
      obtain ⟨v2, hv2, hB1⟩ := bindS hB1
      refine Ok.seqw ⟨Cat.tab [(3, (.b 3 0)), (7, (.o 16)), (8, (.o 84)), (9, (.b 9 0)), (10, (vi v2.1)), (22, (.o 16)), (23, (vi ((x3.length : Int)))), (24, (vi s1.2.1))], [(3, .box [(.c (.func 63) [] [])]), (16, .own 87 3 (List.map c_span_edge x3)), (84, .own 24 2 (List.map c_api_Span v2.2.1)), (9, .box (List.map vi v2.2.2))]⟩ ?_ ?_
      · refine Ok.block ?_
        refine Ok.seq ?_
        refine Ok.region Try.tok ?_
        obtain ⟨x4, hx4, hv2⟩ := bindS hv2
        refine ⟨_, idx_nat hx4, idx_ltm hx4, ⟨_, idx_row hx4, rfl, _, rfl, ⟨_, rfl, ?_⟩⟩⟩
        refine Ok.wk (Wk.tab (L := [(3, (.b 3 0)), (7, (.o 16)), (8, (.o 84)), (9, (.b 9 0)), (10, (vi s1.1)), (11, (vi s1.2.1)), (12, (.b 12 0)), (22, (.o 16)), (23, (vi ((x3.length : Int)))), (24, (vi s1.2.1))]) (H' := [(3, .box [(.c (.func 63) [] [])]), (16, .own 87 3 (List.map c_span_edge x3)), (84, .own 24 2 (List.map c_api_Span s1.2.2.1)), (9, .box (List.map vi s1.2.2.2)), (12, .box [(vi x4.at_), (vi x4.set_), (vb x4.begins_)])]) ⟨Le.refl _, Le.refl _, Le.refl _, Le.refl _, Le.refl _, Le.refl _, Le.refl _, Le.refl _, Le.refl _, Le.refl _, True.intro⟩ ⟨⟨_, rfl, .refl _⟩, ⟨_, rfl, .refl _⟩, ⟨_, rfl, .refl _⟩, ⟨_, rfl, .arr1 (fun _ _ => rfl)⟩, ⟨_, rfl, .refl _⟩, True.intro⟩ rfl) ?_
        refine Ok.seq ?_
        refine Ok.region Try.tok ?_
        refine Ok.wk (Wk.tab (L := [(3, (.b 3 0)), (7, (.o 16)), (8, (.o 84)), (9, (.b 9 0)), (10, (vi s1.1)), (11, (vi s1.2.1)), (12, (.b 12 0)), (13, (vi (1))), (22, (.o 16)), (23, (vi ((x3.length : Int)))), (24, (vi s1.2.1))]) (H' := [(3, .box [(.c (.func 63) [] [])]), (16, .own 87 3 (List.map c_span_edge x3)), (84, .own 24 2 (List.map c_api_Span s1.2.2.1)), (9, .box (List.map vi s1.2.2.2)), (12, .box [(vi x4.at_), (vi x4.set_), (vb x4.begins_)])]) ⟨Le.refl _, Le.refl _, Le.refl _, Le.refl _, Le.refl _, Le.refl _, Le.refl _, Le.refl _, Le.refl _, Le.refl _, Le.refl _, True.intro⟩ ⟨⟨_, rfl, .refl _⟩, ⟨_, rfl, .refl _⟩, ⟨_, rfl, .refl _⟩, ⟨_, rfl, .refl _⟩, ⟨_, rfl, .refl _⟩, True.intro⟩ rfl) ?_
        refine Ok.seq ?_
        refine Ok.block ?_
        obtain ⟨v3, hv3, hv2⟩ := bindS hv2
        refine Ok.seqw ⟨Cat.tab [(3, (.b 3 0)), (7, (.o 16)), (8, (.o 84)), (9, (.b 9 0)), (10, (vi s1.1)), (11, (vi s1.2.1)), (12, (.b 12 0)), (13, (vi v3)), (22, (.o 16)), (23, (vi ((x3.length : Int)))), (24, (vi s1.2.1))], [(3, .box [(.c (.func 63) [] [])]), (16, .own 87 3 (List.map c_span_edge x3)), (84, .own 24 2 (List.map c_api_Span s1.2.2.1)), (9, .box (List.map vi s1.2.2.2)), (12, .box [(vi x4.at_), (vi x4.set_), (vb x4.begins_)])]⟩ ?_ ?_
        · refine Ok.block ?_
          refine Ok.seq ?_
          refine Ok.block ?_
          refine Ok.seq ?_
          refine Ok.seq ?_
          refine Ok.region Try.tok ?_
          refine ⟨_, rfl, ?_⟩
          refine Ok.wk (Wk.tab (L := [(3, (.b 3 0)), (7, (.o 16)), (8, (.o 84)), (9, (.b 9 0)), (10, (vi s1.1)), (11, (vi s1.2.1)), (12, (.b 12 0)), (13, (vi (1))), (22, (.o 16)), (23, (vi ((x3.length : Int)))), (24, (vi s1.2.1)), (29, (vb ((!x4.begins_))))]) (H' := [(3, .box [(.c (.func 63) [] [])]), (16, .own 87 3 (List.map c_span_edge x3)), (84, .own 24 2 (List.map c_api_Span s1.2.2.1)), (9, .box (List.map vi s1.2.2.2)), (12, .box [(vi x4.at_), (vi x4.set_), (vb x4.begins_)])]) ⟨Le.refl _, Le.refl _, Le.refl _, Le.refl _, Le.refl _, Le.refl _, Le.refl _, Le.refl _, Le.refl _, Le.refl _, Le.refl _, Le.refl _, True.intro⟩ ⟨⟨_, rfl, .refl _⟩, ⟨_, rfl, .refl _⟩, ⟨_, rfl, .refl _⟩, ⟨_, rfl, .refl _⟩, ⟨_, rfl, .refl _⟩, True.intro⟩ rfl) ?_
          refine Ok.cond (d := 29) (b := (!x4.begins_)) rfl hv3 (fun hb hv3 => ?_) fun hb hv3 => ?_
          · refine Ok.exit ?_
            refine Ok.region Try.tok ?_
            cases hv3
            exact Wk.tab ⟨Le.refl _, Le.refl _, Le.refl _, Le.refl _, Le.refl _, Le.refl _, Le.refl _, Le.refl _, Le.refl _, Le.refl _, Le.refl _, True.intro⟩ ⟨⟨_, rfl, .refl _⟩, ⟨_, rfl, .refl _⟩, ⟨_, rfl, .refl _⟩, ⟨_, rfl, .refl _⟩, ⟨_, rfl, .refl _⟩, True.intro⟩ rfl
          · refine Ok.skip ?_
            refine Ok.exit ?_
            cases hv3
            exact Wk.tab ⟨Le.refl _, Le.refl _, Le.refl _, Le.refl _, Le.refl _, Le.refl _, Le.refl _, Le.refl _, Le.refl _, Le.refl _, Le.refl _, True.intro⟩ ⟨⟨_, rfl, .refl _⟩, ⟨_, rfl, .refl _⟩, ⟨_, rfl, .refl _⟩, ⟨_, rfl, .refl _⟩, ⟨_, rfl, .refl _⟩, True.intro⟩ rfl
        refine Ok.seq ?_
        refine Ok.region Try.tok ?_
        obtain ⟨x5, hx5, hv2⟩ := bindS hv2
        obtain ⟨hc2, hv2⟩ := chk_some hv2
        obtain ⟨hc3, hv2⟩ := chk_some hv2
        obtain ⟨x6, hx6, hv2⟩ := bindS hv2
        obtain ⟨hc4, hv2⟩ := chk_some hv2
        refine ⟨_, rfl, ⟨_, idx_nat hx5, arr_lt hx5 hc2, bif_of (arr_ble hx5) ⟨_, arr_get hx5, (Or.inl ⟨hc3, ⟨_, idx_nat hx6, arr_lt hx6 hc4, bif_of (arr_st hx6) ⟨_, arr_set hx6, ?_⟩⟩⟩)⟩⟩⟩
        refine Ok.wk (Wk.tab (L := [(3, (.b 3 0)), (7, (.o 16)), (8, (.o 84)), (9, (.b 9 0)), (10, (vi s1.1)), (11, (vi s1.2.1)), (12, (.b 12 0)), (22, (.o 16)), (23, (vi ((x3.length : Int)))), (24, (vi s1.2.1))]) (H' := [(3, .box [(.c (.func 63) [] [])]), (16, .own 87 3 (List.map c_span_edge x3)), (84, .own 24 2 (List.map c_api_Span s1.2.2.1)), (9, .box (List.map vi ((s1.2.2.2.set x4.set_.toNat ((x5 + v3)))))), (12, .box [(vi x4.at_), (vi x4.set_), (vb x4.begins_)])]) ⟨Le.refl _, Le.refl _, Le.refl _, Le.refl _, Le.refl _, Le.refl _, Le.refl _, Le.refl _, Le.refl _, Le.refl _, True.intro⟩ ⟨⟨_, rfl, .refl _⟩, ⟨_, rfl, .refl _⟩, ⟨_, rfl, .refl _⟩, ⟨_, rfl, .refl _⟩, ⟨_, rfl, .refl _⟩, True.intro⟩ rfl) ?_
        refine Ok.exit ?_
        refine Ok.seq ?_
        obtain ⟨v4, hv4, hv2⟩ := bindS hv2
        refine Ok.seqw ⟨Cat.tab [(3, (.b 3 0)), (7, (.o 16)), (8, (.o 84)), (9, (.b 9 0)), (10, (vi s1.1)), (12, (.b 12 0)), (22, (.o 16)), (23, (vi ((x3.length : Int)))), (24, (vi s1.2.1)), (55, (vb v4))], [(3, .box [(.c (.func 63) [] [])]), (16, .own 87 3 (List.map c_span_edge x3)), (84, .own 24 2 (List.map c_api_Span s1.2.2.1)), (9, .box (List.map vi ((s1.2.2.2.set x4.set_.toNat ((x5 + v3)))))), (12, .box [(vi x4.at_), (vi x4.set_), (vb x4.begins_)])]⟩ ?_ ?_
        · refine Ok.draw (m := 16) (MD := ⟨[]⟩) (CH := ⟨[]⟩) Try.tok Try.mixed (by kernel_rfl) ?_
          obtain ⟨hc5, hv4⟩ := chk_some hv4
          refine ⟨_, rfl, ⟨_, (Or.inl ⟨hc5, rfl⟩), ⟨_, rfl, ⟨_, ⟨_, List.length_map _, fun _ => rfl⟩, ⟨_, rfl, ⟨_, rfl, ?_⟩⟩⟩⟩⟩⟩
          obtain ⟨c1, hg1, hv4⟩ := bindS hv4
          refine Br.ite hg1 (fun hb hg1 => ?_) fun hb hg1 => ?_
          · obtain ⟨hc6, hg1⟩ := chk_some hg1
            obtain ⟨x7, hx7, hg1⟩ := bindS hg1
            refine ⟨_, rfl, ⟨_, rfl, ⟨_, (Or.inl ⟨hc6, rfl⟩), ⟨_, ⟨_, idx_nat hx7, idx_ltm hx7, rfl⟩, ⟨_, rfl, ⟨_, ⟨_, idx_row hx7, rfl, _, rfl, rfl⟩, ⟨_, rfl, ⟨_, ⟨_, rfl, rfl⟩, ⟨_, rfl, ?_⟩⟩⟩⟩⟩⟩⟩⟩⟩
            cases hg1
            refine ⟨_, rfl, ?_⟩
            refine ⟨True.intro, ?_⟩
            cases hv4
            exact Wk.tab ⟨Le.refl _, Le.refl _, Le.refl _, Le.refl _, Le.refl _, Le.refl _, Le.refl _, Le.refl _, Le.refl _, Le.refl _, True.intro⟩ ⟨⟨_, rfl, .refl _⟩, ⟨_, rfl, .refl _⟩, ⟨_, rfl, .refl _⟩, ⟨_, rfl, .refl _⟩, ⟨_, rfl, .refl _⟩, True.intro⟩ rfl
          · cases hg1
            refine ⟨_, rfl, ?_⟩
            refine ⟨True.intro, ?_⟩
            cases hv4
            exact Wk.tab ⟨Le.refl _, Le.refl _, Le.refl _, Le.refl _, Le.refl _, Le.refl _, Le.refl _, Le.refl _, Le.refl _, Le.refl _, True.intro⟩ ⟨⟨_, rfl, .refl _⟩, ⟨_, rfl, .refl _⟩, ⟨_, rfl, .refl _⟩, ⟨_, rfl, .refl _⟩, ⟨_, rfl, .refl _⟩, True.intro⟩ rfl
        refine Ok.cond (d := 55) (b := v4) rfl hv2 (fun hb hv2 => ?_) fun hb hv2 => ?_
        · refine Ok.exit ?_
          cases hv2
          exact Wk.tab ⟨Le.refl _, Le.refl _, Le.refl _, Le.refl _, Le.refl _, Le.refl _, Le.refl _, Le.refl _, True.intro⟩ ⟨⟨_, rfl, .refl _⟩, ⟨_, rfl, .refl _⟩, ⟨_, rfl, .refl _⟩, ⟨_, rfl, .refl _⟩, True.intro⟩ rfl
        · refine Ok.skip ?_
          refine Ok.seq ?_
          refine Ok.region Try.tok ?_
          obtain ⟨x8, hx8, hv2⟩ := bindS hv2
          obtain ⟨x9, hx9, hv2⟩ := bindS hv2
          obtain ⟨x10, hx10, hv2⟩ := bindS hv2
          refine ⟨_, rfl, ⟨_, idx_nat hx8, arr_lt hx8 (by decide), bif_of (arr_ble hx8) ⟨_, arr_get hx8, ⟨_, idx_nat hx9, arr_lt hx9 (by decide), bif_of (arr_ble hx9) ⟨_, arr_get hx9, ?_⟩⟩⟩⟩⟩
          refine CallOk.call (w_span_Cut_1 hx10) (LeL.refl _) ?_
          refine Ok.wk (Wk.tab (L := [(3, (.b 3 0)), (7, (.o 16)), (8, (.o 84)), (9, (.b 9 0)), (10, (vi s1.1)), (12, (.b 12 0)), (14, (vb x10)), (22, (.o 16)), (23, (vi ((x3.length : Int)))), (24, (vi s1.2.1))]) (H' := [(3, .box [(.c (.func 63) [] [])]), (16, .own 87 3 (List.map c_span_edge x3)), (84, .own 24 2 (List.map c_api_Span s1.2.2.1)), (9, .box (List.map vi ((s1.2.2.2.set x4.set_.toNat ((x5 + v3)))))), (12, .box [(vi x4.at_), (vi x4.set_), (vb x4.begins_)])]) ⟨Le.refl _, Le.refl _, Le.refl _, Le.refl _, Le.refl _, Le.refl _, Le.refl _, Le.refl _, Le.refl _, Le.refl _, True.intro⟩ ⟨⟨_, rfl, .refl _⟩, ⟨_, rfl, .refl _⟩, ⟨_, rfl, .refl _⟩, ⟨_, rfl, .refl _⟩, ⟨_, rfl, .refl _⟩, True.intro⟩ rfl) ?_
          obtain ⟨v5, hv5, hv2⟩ := bindS hv2
          refine Ok.seqw ⟨Cat.tab [(3, (.b 3 0)), (7, (.o 16)), (8, (.o 84)), (9, (.b 9 0)), (10, (vi v5)), (12, (.b 12 0)), (14, (vb x10)), (22, (.o 16)), (23, (vi ((x3.length : Int)))), (24, (vi s1.2.1))], [(3, .box [(.c (.func 63) [] [])]), (16, .own 87 3 (List.map c_span_edge x3)), (84, .own 24 2 (List.map c_api_Span s1.2.2.1)), (9, .box (List.map vi ((s1.2.2.2.set x4.set_.toNat ((x5 + v3)))))), (12, .box [(vi x4.at_), (vi x4.set_), (vb x4.begins_)])]⟩ ?_ ?_
          · obtain ⟨v6, hv6, hv5⟩ := bindS hv5
            refine Ok.seqw ⟨Cat.tab [(3, (.b 3 0)), (7, (.o 16)), (8, (.o 84)), (9, (.b 9 0)), (10, (vi s1.1)), (12, (.b 12 0)), (14, (vb x10)), (22, (.o 16)), (23, (vi ((x3.length : Int)))), (24, (vi s1.2.1)), (69, (vb v6))], [(3, .box [(.c (.func 63) [] [])]), (16, .own 87 3 (List.map c_span_edge x3)), (84, .own 24 2 (List.map c_api_Span s1.2.2.1)), (9, .box (List.map vi ((s1.2.2.2.set x4.set_.toNat ((x5 + v3)))))), (12, .box [(vi x4.at_), (vi x4.set_), (vb x4.begins_)])]⟩ ?_ ?_
            · refine Ok.region Try.tok ?_
              obtain ⟨c2, hg2, hv6⟩ := bindS hv6
              refine Br.ite hg2 (fun hb hg2 => ?_) fun hb hg2 => ?_
              · cases hg2
                cases hv6
                exact Wk.tab ⟨Le.refl _, Le.refl _, Le.refl _, Le.refl _, Le.refl _, Le.refl _, Le.refl _, Le.refl _, Le.refl _, Le.refl _, Le.refl _, True.intro⟩ ⟨⟨_, rfl, .refl _⟩, ⟨_, rfl, .refl _⟩, ⟨_, rfl, .refl _⟩, ⟨_, rfl, .refl _⟩, ⟨_, rfl, .refl _⟩, True.intro⟩ rfl
              · cases hg2
                cases hv6
                exact Wk.tab ⟨Le.refl _, Le.refl _, Le.refl _, Le.refl _, Le.refl _, Le.refl _, Le.refl _, Le.refl _, Le.refl _, Le.refl _, Le.refl _, True.intro⟩ ⟨⟨_, rfl, .refl _⟩, ⟨_, rfl, .refl _⟩, ⟨_, rfl, .refl _⟩, ⟨_, rfl, .refl _⟩, ⟨_, rfl, .refl _⟩, True.intro⟩ rfl
            refine Ok.cond (d := 69) (b := v6) rfl hv5 (fun hb hv5 => ?_) fun hb hv5 => ?_
            · refine Ok.region Try.tok ?_
              refine ⟨_, rfl, ?_⟩
              cases hv5
              exact Wk.tab ⟨Le.refl _, Le.refl _, Le.refl _, Le.refl _, Le.refl _, Le.refl _, Le.refl _, Le.refl _, Le.refl _, Le.refl _, True.intro⟩ ⟨⟨_, rfl, .refl _⟩, ⟨_, rfl, .refl _⟩, ⟨_, rfl, .refl _⟩, ⟨_, rfl, .refl _⟩, ⟨_, rfl, .refl _⟩, True.intro⟩ rfl
            · refine Ok.skip ?_
              cases hv5
              exact Wk.tab ⟨Le.refl _, Le.refl _, Le.refl _, Le.refl _, Le.refl _, Le.refl _, Le.refl _, Le.refl _, Le.refl _, Le.refl _, True.intro⟩ ⟨⟨_, rfl, .refl _⟩, ⟨_, rfl, .refl _⟩, ⟨_, rfl, .refl _⟩, ⟨_, rfl, .refl _⟩, ⟨_, rfl, .refl _⟩, True.intro⟩ rfl
          obtain ⟨v7, hv7, hv2⟩ := bindS hv2
          refine Ok.seqw ⟨Cat.tab [(3, (.b 3 0)), (7, (.o 16)), (8, (.o 84)), (9, (.b 9 0)), (10, (vi v5)), (12, (.b 12 0)), (22, (.o 16)), (23, (vi ((x3.length : Int)))), (24, (vi s1.2.1)), (77, (vb v7))], [(3, .box [(.c (.func 63) [] [])]), (16, .own 87 3 (List.map c_span_edge x3)), (84, .own 24 2 (List.map c_api_Span s1.2.2.1)), (9, .box (List.map vi ((s1.2.2.2.set x4.set_.toNat ((x5 + v3)))))), (12, .box [(vi x4.at_), (vi x4.set_), (vb x4.begins_)])]⟩ ?_ ?_
          · refine Ok.region Try.tok ?_
            obtain ⟨c3, hg3, hv7⟩ := bindS hv7
            refine Br.ite hg3 (fun hb hg3 => ?_) fun hb hg3 => ?_
            · cases hg3
              cases hv7
              exact Wk.tab ⟨Le.refl _, Le.refl _, Le.refl _, Le.refl _, Le.refl _, Le.refl _, Le.refl _, Le.refl _, Le.refl _, Le.refl _, True.intro⟩ ⟨⟨_, rfl, .refl _⟩, ⟨_, rfl, .refl _⟩, ⟨_, rfl, .refl _⟩, ⟨_, rfl, .refl _⟩, ⟨_, rfl, .refl _⟩, True.intro⟩ rfl
            · cases hg3
              cases hv7
              exact Wk.tab ⟨Le.refl _, Le.refl _, Le.refl _, Le.refl _, Le.refl _, Le.refl _, Le.refl _, Le.refl _, Le.refl _, Le.refl _, True.intro⟩ ⟨⟨_, rfl, .refl _⟩, ⟨_, rfl, .refl _⟩, ⟨_, rfl, .refl _⟩, ⟨_, rfl, .refl _⟩, ⟨_, rfl, .refl _⟩, True.intro⟩ rfl
          refine Ok.cond (d := 77) (b := v7) rfl hv2 (fun hb hv2 => ?_) fun hb hv2 => ?_
          · refine Ok.seq ?_
            refine Ok.region Try.tok ?_
            obtain ⟨hc7, hv2⟩ := chk_some hv2
            refine ⟨_, rfl, Or.inl ⟨rowsLen_map (f := c_api_Span) (n := 2) (fun _ => rfl) ([(⟨v5, x4.at_⟩ : api_Span)]), app_b2 (f := c_api_Span) (l := s1.2.2.1) (l' := ([(⟨v5, x4.at_⟩ : api_Span)])) hc7, _, (List.map_append (f := c_api_Span) (l₁ := s1.2.2.1) (l₂ := ([(⟨v5, x4.at_⟩ : api_Span)]))).symm, ?_⟩⟩
            refine Ok.wk (Wk.tab (L := [(3, (.b 3 0)), (7, (.o 16)), (8, (.o 84)), (9, (.b 9 0)), (22, (.o 16)), (23, (vi ((x3.length : Int)))), (24, (vi s1.2.1))]) (H' := [(3, .box [(.c (.func 63) [] [])]), (16, .own 87 3 (List.map c_span_edge x3)), (84, .own 24 2 (List.map c_api_Span ((s1.2.2.1 ++ [(⟨v5, x4.at_⟩ : api_Span)])))), (9, .box (List.map vi ((s1.2.2.2.set x4.set_.toNat ((x5 + v3))))))]) ⟨Le.refl _, Le.refl _, Le.refl _, Le.refl _, Le.refl _, Le.refl _, Le.refl _, True.intro⟩ ⟨⟨_, rfl, .refl _⟩, ⟨_, rfl, .refl _⟩, ⟨_, rfl, .refl _⟩, ⟨_, rfl, .arr1 (fun _ _ => rfl)⟩, True.intro⟩ rfl) ?_
            refine Ok.region Try.tok ?_
            cases hv2
            exact Wk.tab ⟨Le.refl _, Le.refl _, Le.refl _, Le.refl _, Le.refl _, Le.refl _, Le.refl _, Le.refl _, True.intro⟩ ⟨⟨_, rfl, .refl _⟩, ⟨_, rfl, .refl _⟩, ⟨_, rfl, .refl _⟩, ⟨_, rfl, .refl _⟩, True.intro⟩ rfl
          · refine Ok.skip ?_
            cases hv2
            exact Wk.tab ⟨Le.refl _, Le.refl _, Le.refl _, Le.refl _, Le.refl _, Le.refl _, Le.refl _, Le.refl _, True.intro⟩ ⟨⟨_, rfl, .refl _⟩, ⟨_, rfl, .refl _⟩, ⟨_, rfl, .refl _⟩, ⟨_, rfl, .refl _⟩, True.intro⟩ rfl
      refine Ok.region Try.tok ?_
      obtain ⟨hc8, hB1⟩ := chk_some hB1
      refine (Or.inl ⟨hc8, ?_⟩)
      exact ⟨_, (Option.some.inj hB1).symm, Wk.tab ⟨Le.refl _, Le.refl _, Le.refl _, Le.refl _, Le.refl _, Le.refl _, Le.refl _, Le.refl _, True.intro⟩ ⟨⟨_, rfl, .refl _⟩, ⟨_, rfl, .refl _⟩, ⟨_, rfl, .refl _⟩, ⟨_, rfl, .refl _⟩, True.intro⟩ rfl⟩
    · refine Ok.exit ?_
      have hB1 := out_ret hB1 hy1
      cases hB1
      exact Wk.tab ⟨Le.refl _, True.intro⟩ ⟨⟨_, rfl, .refl _⟩, True.intro⟩ rfl
  refine Ok.seq ?_
  refine Ok.region Try.tok ?_
  refine Ok.wk (Wk.tab (L := [(6, (.o 84))]) (H' := [(84, .own 24 2 (List.map c_api_Span v1))]) ⟨Le.refl _, True.intro⟩ ⟨⟨_, rfl, .refl _⟩, True.intro⟩ rfl) ?_
  refine Ok.ret ?_
  cases h
  exact (.inr ⟨_, rfl, rfl⟩)
theorem w_span_asked_of__span_Cut_1 {p_a : List api_Span} {p_b : List api_Span} {r : (List api_Span)} (h : span_asked_of__span_Cut_1 p_a p_b = some r) : Pure Try.prog 64 [(.a [(.c (.func 63) [] [])]), (.s (List.map c_api_Span p_a)), (.s (List.map c_api_Span p_b))] (.s (List.map c_api_Span r)) := (wo_span_asked_of__span_Cut_1 h).pure

theorem w_span_Cut {p_a : List api_Span} {p_b : List api_Span} {r : (List api_Span)} (h : span_Cut p_a p_b = some r) : Pure Try.prog 44 [(.s (List.map c_api_Span p_a)), (.s (List.map c_api_Span p_b))] (.s (List.map c_api_Span r)) := by
  refine pure_of_ok (n := 9) (c := (Try.f44.body.getD .skip)) Try.tok Try.func44 (by kernel_rfl) rfl rfl (Nat.le_of_ble_eq_true rfl) ?_
  unfold span_Cut at h
  refine Ok.wk (Wk.tab (L := [(0, (.s (List.map c_api_Span p_a))), (1, (.s (List.map c_api_Span p_b)))]) (H' := []) ⟨Le.refl _, Le.refl _, True.intro⟩ True.intro rfl) ?_
  refine Ok.seq ?_
  refine Ok.region Try.tok ?_
  refine Ok.wk (Wk.tab (L := [(0, (.s (List.map c_api_Span p_a))), (1, (.s (List.map c_api_Span p_b)))]) (H' := []) ⟨Le.refl _, Le.refl _, True.intro⟩ True.intro rfl) ?_
  refine Ok.seq ?_
  refine Ok.region Try.tok ?_
  obtain ⟨x1, hx1, h⟩ := bindS h
  refine CallOk.call (w_span_asked_of__span_Cut_1 hx1) (LeL.refl _) ?_
  refine Ok.wk (Wk.tab (L := [(4, (.s (List.map c_api_Span x1)))]) (H' := []) ⟨Le.refl _, True.intro⟩ True.intro rfl) ?_
  refine Ok.ret ?_
  cases h
  exact Fz.s

theorem w_lease_Has {p_l : List api_Lease} {p_client : Int} {p_ino : Int} {p_kind : Int} {p_s : api_Span} {r : Bool} (h : lease_Has p_l p_client p_ino p_kind p_s = some r) : Pure Try.prog 21 [(.s (List.map c_api_Lease p_l)), (vi p_client), (vi p_ino), (vi p_kind), (.a [(vi p_s.From), (vi p_s.To)])] (vb r) := by
  refine pure_of_ok (n := 62) (c := (Try.f21.body.getD .skip)) Try.tok Try.func21 (by kernel_rfl) rfl rfl (Nat.le_of_ble_eq_true rfl) ?_
  unfold lease_Has at h
  refine Ok.wk (Wk.tab (L := [(0, (.s (List.map c_api_Lease p_l))), (1, (vi p_client)), (2, (vi p_ino)), (3, (vi p_kind)), (4, (.a [(vi p_s.From), (vi p_s.To)]))]) (H' := []) ⟨Le.refl _, Le.refl _, Le.refl _, Le.refl _, Le.refl _, True.intro⟩ True.intro rfl) ?_
  refine Ok.seq ?_
  refine Ok.region Try.tok ?_
  refine Ok.wk (Wk.tab (L := [(0, (.s (List.map c_api_Lease p_l))), (1, (vi p_client)), (2, (vi p_ino)), (3, (vi p_kind)), (9, (.b 9 0))]) (H' := [(9, .box [(vi p_s.From), (vi p_s.To)])]) ⟨Le.refl _, Le.refl _, Le.refl _, Le.refl _, Le.refl _, True.intro⟩ ⟨⟨_, rfl, .refl _⟩, True.intro⟩ rfl) ?_
  refine Ok.seq ?_
  obtain ⟨v1, hv1, h⟩ := bindS h
  refine Ok.seqw ⟨Cat.tab [(0, (.s (List.map c_api_Lease p_l))), (1, (vi p_client)), (2, (vi p_ino)), (3, (vi p_kind)), (9, (.b 9 0)), (21, (vb v1))], [(9, .box [(vi p_s.From), (vi p_s.To)])]⟩ ?_ ?_
  · refine Ok.region Try.tok ?_
    obtain ⟨x1, hx1, hv1⟩ := bindS hv1
    refine ⟨_, rfl, ?_⟩
    refine CallOk.call (w_lease_spanned hx1) (LeL.refl _) ?_
    obtain ⟨c1, hg1, hv1⟩ := bindS hv1
    refine Br.itf hg1 (fun hb hg1 => ?_) fun hb hg1 => ?_
    · cases hg1
      cases hv1
      exact Wk.tab ⟨Le.refl _, Le.refl _, Le.refl _, Le.refl _, Le.refl _, Le.refl _, True.intro⟩ ⟨⟨_, rfl, .refl _⟩, True.intro⟩ rfl
    · obtain ⟨x2, hx2, hg1⟩ := bindS hg1
      refine CallOk.call (w_lease_kinded hx2) (LeL.refl _) ?_
      cases hg1
      cases hv1
      exact Wk.tab ⟨Le.refl _, Le.refl _, Le.refl _, Le.refl _, Le.refl _, Le.refl _, True.intro⟩ ⟨⟨_, rfl, .refl _⟩, True.intro⟩ rfl
  refine Ok.cond (d := 21) (b := v1) rfl h (fun hb h => ?_) fun hb h => ?_
  · refine Ok.seq ?_
    refine Ok.region Try.tok ?_
    refine Ok.wk (Wk.tab (L := [(10, (vb false))]) (H' := []) ⟨Le.refl _, True.intro⟩ True.intro rfl) ?_
    refine Ok.ret ?_
    cases h
    exact Fz.v
  · refine Ok.skip ?_
    refine Ok.seq ?_
    refine Ok.region Try.tok ?_
    refine Ok.wk (Wk.tab (L := [(0, (.s (List.map c_api_Lease p_l))), (1, (vi p_client)), (2, (vi p_ino)), (3, (vi p_kind)), (9, (.b 9 0)), (11, (.v (.slice none 0 0)))]) (H' := [(9, .box [(vi p_s.From), (vi p_s.To)])]) ⟨Le.refl _, Le.refl _, Le.refl _, Le.refl _, Le.refl _, Le.refl _, True.intro⟩ ⟨⟨_, rfl, .refl _⟩, True.intro⟩ rfl) ?_
    obtain ⟨v2, hv2, h⟩ := bindS h
    refine Ok.seqw ⟨Cat.tab [(9, (.b 9 0)), (11, (.o 53))], [(9, .box [(vi p_s.From), (vi p_s.To)]), (53, .own 24 2 (List.map c_api_Span v2))]⟩ ?_ ?_
    · refine Ok.seq ?_
      refine Ok.region Try.tok ?_
      refine ⟨_, List.length_map _, fun _ => ?_⟩
      refine Ok.wk (Wk.tab (L := [(1, (vi p_client)), (2, (vi p_ino)), (3, (vi p_kind)), (9, (.b 9 0)), (11, (.v (.slice none 0 0))), (22, (.s (List.map c_api_Lease p_l))), (23, (vi ((p_l.length : Int)))), (24, (vi (0)))]) (H' := [(9, .box [(vi p_s.From), (vi p_s.To)])]) ⟨Le.refl _, Le.refl _, Le.refl _, Le.refl _, Le.refl _, Le.refl _, Le.refl _, Le.refl _, True.intro⟩ ⟨⟨_, rfl, .refl _⟩, True.intro⟩ rfl) ?_
      refine Ok.block ?_
      refine Ok.loop (fun (s1 : Int × (List api_Span)) => ⟨Cat.tab [(1, (vi p_client)), (2, (vi p_ino)), (3, (vi p_kind)), (9, (.b 9 0)), (11, (.o 53)), (22, (.s (List.map c_api_Lease p_l))), (23, (vi ((p_l.length : Int)))), (24, (vi s1.1))], [(9, .box [(vi p_s.From), (vi p_s.To)]), (53, .own 24 2 (List.map c_api_Span s1.2))]⟩) (lease_Has_B1 p_l p_client p_ino p_kind) (s0 := (0, [])) hv2 ((Wk.own0 (t := 11) (id := 53) (E := 24) (K := 2) rfl rfl).trans (Wk.tab ⟨Le.refl _, Le.refl _, Le.refl _, Le.refl _, Le.refl _, Le.refl _, Le.refl _, Le.refl _, True.intro⟩ ⟨⟨_, rfl, .refl _⟩, ⟨_, rfl, .refl _⟩, True.intro⟩ rfl)) ?_
      intro s1 y1 hB1 hy1
      unfold lease_Has_B1 at hB1
      refine Ok.seq ?_
      refine Ok.region Try.tok ?_
      refine Ok.wk (Wk.tab (L := [(1, (vi p_client)), (2, (vi p_ino)), (3, (vi p_kind)), (9, (.b 9 0)), (11, (.o 53)), (22, (.s (List.map c_api_Lease p_l))), (23, (vi ((p_l.length : Int)))), (24, (vi s1.1)), (25, (vb ((decide (s1.1 < (p_l.length : Int))))))]) (H' := [(9, .box [(vi p_s.From), (vi p_s.To)]), (53, .own 24 2 (List.map c_api_Span s1.2))]) ⟨Le.refl _, Le.refl _, Le.refl _, Le.refl _, Le.refl _, Le.refl _, Le.refl _, Le.refl _, Le.refl _, True.intro⟩ ⟨⟨_, rfl, .refl _⟩, ⟨_, rfl, .refl _⟩, True.intro⟩ rfl) ?_
      refine Ok.seq ?_
      refine Ok.cond (d := 25) (b := (decide (s1.1 < (p_l.length : Int)))) rfl hB1 (fun hb hB1 => ?_) fun hb hB1 => ?_
      · refine Ok.skip ?_
        obtain ⟨v3, hv3, hB1⟩ := bindS hB1
        refine Ok.seqw ⟨Cat.tab [(1, (vi p_client)), (2, (vi p_ino)), (3, (vi p_kind)), (9, (.b 9 0)), (11, (.o 53)), (22, (.s (List.map c_api_Lease p_l))), (23, (vi ((p_l.length : Int)))), (24, (vi s1.1))], [(9, .box [(vi p_s.From), (vi p_s.To)]), (53, .own 24 2 (List.map c_api_Span v3))]⟩ ?_ ?_
        · refine Ok.block ?_
          refine Ok.seq ?_
          refine Ok.region Try.tok ?_
          obtain ⟨x3, hx3, hv3⟩ := bindS hv3
          refine ⟨_, idx_nat hx3, _, idx_row hx3, ⟨_, rfl, ⟨_, rfl, ?_⟩⟩⟩
          refine Ok.wk (Wk.tab (L := [(1, (vi p_client)), (2, (vi p_ino)), (3, (vi p_kind)), (9, (.b 9 0)), (11, (.o 53)), (13, (.b 13 0)), (22, (.s (List.map c_api_Lease p_l))), (23, (vi ((p_l.length : Int)))), (24, (vi s1.1))]) (H' := [(9, .box [(vi p_s.From), (vi p_s.To)]), (53, .own 24 2 (List.map c_api_Span s1.2)), (13, .box [(vi x3.Client), (vi x3.Ino), (vi x3.Kind), (vi x3.Span.From), (vi x3.Span.To), (vi x3.Until), (vi x3.Epoch)])]) ⟨Le.refl _, Le.refl _, Le.refl _, Le.refl _, Le.refl _, Le.refl _, Le.refl _, Le.refl _, Le.refl _, True.intro⟩ ⟨⟨_, rfl, .refl _⟩, ⟨_, rfl, .refl _⟩, ⟨_, rfl, .refl _⟩, True.intro⟩ rfl) ?_
          obtain ⟨v4, hv4, hv3⟩ := bindS hv3
          refine Ok.seqw ⟨Cat.tab [(1, (vi p_client)), (2, (vi p_ino)), (3, (vi p_kind)), (9, (.b 9 0)), (11, (.o 53)), (13, (.b 13 0)), (22, (.s (List.map c_api_Lease p_l))), (23, (vi ((p_l.length : Int)))), (24, (vi s1.1)), (48, (vb v4))], [(9, .box [(vi p_s.From), (vi p_s.To)]), (53, .own 24 2 (List.map c_api_Span s1.2)), (13, .box [(vi x3.Client), (vi x3.Ino), (vi x3.Kind), (vi x3.Span.From), (vi x3.Span.To), (vi x3.Until), (vi x3.Epoch)])]⟩ ?_ ?_
          · refine Ok.region Try.tok ?_
            refine ⟨_, rfl, ?_⟩
            obtain ⟨c2, hg2, hv4⟩ := bindS hv4
            refine Br.ite hg2 (fun hb hg2 => ?_) fun hb hg2 => ?_
            · refine ⟨_, rfl, ?_⟩
              cases hg2
              obtain ⟨c4, hg3, hv4⟩ := bindS hv4
              refine Br.ite hg3 (fun hb hg3 => ?_) fun hb hg3 => ?_
              · refine ⟨_, rfl, ?_⟩
                obtain ⟨c3, hg4, hg3⟩ := bindS hg3
                refine Br.itf hg4 (fun hb hg4 => ?_) fun hb hg4 => ?_
                · cases hg4
                  cases hg3
                  cases hv4
                  exact Wk.tab ⟨Le.refl _, Le.refl _, Le.refl _, Le.refl _, Le.refl _, Le.refl _, Le.refl _, Le.refl _, Le.refl _, Le.refl _, True.intro⟩ ⟨⟨_, rfl, .refl _⟩, ⟨_, rfl, .refl _⟩, ⟨_, rfl, .refl _⟩, True.intro⟩ rfl
                · refine ⟨_, rfl, ?_⟩
                  cases hg4
                  cases hg3
                  cases hv4
                  exact Wk.tab ⟨Le.refl _, Le.refl _, Le.refl _, Le.refl _, Le.refl _, Le.refl _, Le.refl _, Le.refl _, Le.refl _, Le.refl _, True.intro⟩ ⟨⟨_, rfl, .refl _⟩, ⟨_, rfl, .refl _⟩, ⟨_, rfl, .refl _⟩, True.intro⟩ rfl
              · cases hg3
                cases hv4
                exact Wk.tab ⟨Le.refl _, Le.refl _, Le.refl _, Le.refl _, Le.refl _, Le.refl _, Le.refl _, Le.refl _, Le.refl _, Le.refl _, True.intro⟩ ⟨⟨_, rfl, .refl _⟩, ⟨_, rfl, .refl _⟩, ⟨_, rfl, .refl _⟩, True.intro⟩ rfl
            · cases hg2
              obtain ⟨c4, hg5, hv4⟩ := bindS hv4
              replace hg5 := iteF hg5
              cases hg5
              cases hv4
              exact Wk.tab ⟨Le.refl _, Le.refl _, Le.refl _, Le.refl _, Le.refl _, Le.refl _, Le.refl _, Le.refl _, Le.refl _, Le.refl _, True.intro⟩ ⟨⟨_, rfl, .refl _⟩, ⟨_, rfl, .refl _⟩, ⟨_, rfl, .refl _⟩, True.intro⟩ rfl
          refine Ok.cond (d := 48) (b := v4) rfl hv3 (fun hb hv3 => ?_) fun hb hv3 => ?_
          · refine Ok.region Try.tok ?_
            obtain ⟨hc1, hv3⟩ := chk_some hv3
            refine ⟨_, rfl, Or.inl ⟨rowsLen_map (f := c_api_Span) (n := 2) (fun _ => rfl) ([x3.Span]), app_b2 (f := c_api_Span) (l := s1.2) (l' := ([x3.Span])) hc1, _, (List.map_append (f := c_api_Span) (l₁ := s1.2) (l₂ := ([x3.Span]))).symm, ?_⟩⟩
            cases hv3
            exact Wk.tab ⟨Le.refl _, Le.refl _, Le.refl _, Le.refl _, Le.refl _, Le.refl _, Le.refl _, Le.refl _, True.intro⟩ ⟨⟨_, rfl, .refl _⟩, ⟨_, rfl, .refl _⟩, True.intro⟩ rfl
          · refine Ok.skip ?_
            cases hv3
            exact Wk.tab ⟨Le.refl _, Le.refl _, Le.refl _, Le.refl _, Le.refl _, Le.refl _, Le.refl _, Le.refl _, True.intro⟩ ⟨⟨_, rfl, .refl _⟩, ⟨_, rfl, .refl _⟩, True.intro⟩ rfl
        refine Ok.region Try.tok ?_
        obtain ⟨hc2, hB1⟩ := chk_some hB1
        refine (Or.inl ⟨hc2, ?_⟩)
        exact ⟨_, (Option.some.inj hB1).symm, Wk.tab ⟨Le.refl _, Le.refl _, Le.refl _, Le.refl _, Le.refl _, Le.refl _, Le.refl _, Le.refl _, True.intro⟩ ⟨⟨_, rfl, .refl _⟩, ⟨_, rfl, .refl _⟩, True.intro⟩ rfl⟩
      · refine Ok.exit ?_
        have hB1 := out_ret hB1 hy1
        cases hB1
        exact Wk.tab ⟨Le.refl _, Le.refl _, True.intro⟩ ⟨⟨_, rfl, .refl _⟩, ⟨_, rfl, .refl _⟩, True.intro⟩ rfl
    refine Ok.seq ?_
    refine Ok.wk (Wk.freeze (id := 53) rfl) ?_
    refine Ok.draw (m := 8) (MD := ⟨[]⟩) (CH := ⟨[]⟩) Try.tok Try.mixed (by kernel_rfl) ?_
    obtain ⟨x4, hx4, h⟩ := bindS h
    obtain ⟨x5, hx5, h⟩ := bindS h
    refine ⟨_, ⟨_, rfl, rfl⟩, ⟨_, rfl, ⟨_, rfl, ⟨_, ⟨_, .of_pure (w_span_Norm hx4) (LeL.refl _), rfl⟩, ⟨_, ⟨_, .of_pure (w_span_Cut hx5) (LeL.refl _), rfl⟩, ⟨_, ⟨_, List.length_map _, fun _ => rfl⟩, ⟨_, rfl, ⟨_, rfl, ⟨True.intro, ?_⟩⟩⟩⟩⟩⟩⟩⟩⟩
    refine Ok.wk (Wk.tab (L := [(10, (vb (((x5.length : Int) == 0))))]) (H' := []) ⟨Le.refl _, True.intro⟩ True.intro rfl) ?_
    refine Ok.ret ?_
    cases h
    exact Fz.v

theorem w_lease_Back_1 {p_x : api_Lease} {p_a1_0 : Int} {p_a2_0 : Int} {r : Bool} (h : lease_Back_1 p_x p_a1_0 p_a2_0 = some r) : Pure Try.prog 41 [(.a [(vi p_x.Client), (vi p_x.Ino), (vi p_x.Kind), (vi p_x.Span.From), (vi p_x.Span.To), (vi p_x.Until), (vi p_x.Epoch)]), (.p [(vi p_a1_0)]), (.p [(vi p_a2_0)])] (vb r) := by
  refine pure_of_ok (n := 15) (c := (Try.f41.body.getD .skip)) Try.tok Try.func41 (by kernel_rfl) rfl rfl (Nat.le_of_ble_eq_true rfl) ?_
  unfold lease_Back_1 at h
  refine Ok.wk (Wk.tab (L := [(0, (.a [(vi p_x.Client), (vi p_x.Ino), (vi p_x.Kind), (vi p_x.Span.From), (vi p_x.Span.To), (vi p_x.Until), (vi p_x.Epoch)])), (1, (.p [(vi p_a1_0)])), (2, (.p [(vi p_a2_0)]))]) (H' := []) ⟨Le.refl _, Le.refl _, Le.refl _, True.intro⟩ True.intro rfl) ?_
  refine Ok.seq ?_
  refine Ok.region Try.tok ?_
  refine Ok.wk (Wk.tab (L := [(1, (.p [(vi p_a1_0)])), (2, (.p [(vi p_a2_0)])), (3, (.b 3 0))]) (H' := [(3, .box [(vi p_x.Client), (vi p_x.Ino), (vi p_x.Kind), (vi p_x.Span.From), (vi p_x.Span.To), (vi p_x.Until), (vi p_x.Epoch)])]) ⟨Le.refl _, Le.refl _, Le.refl _, True.intro⟩ ⟨⟨_, rfl, .refl _⟩, True.intro⟩ rfl) ?_
  obtain ⟨v1, hv1, h⟩ := bindS h
  refine Ok.seqw ⟨Cat.tab [(4, (vb v1))], []⟩ ?_ ?_
  · refine Ok.region Try.tok ?_
    refine ⟨_, rfl, ⟨_, rfl, ?_⟩⟩
    obtain ⟨c1, hg1, hv1⟩ := bindS hv1
    refine Br.itf hg1 (fun hb hg1 => ?_) fun hb hg1 => ?_
    · cases hg1
      cases hv1
      exact Wk.tab ⟨Le.refl _, True.intro⟩ True.intro rfl
    · refine ⟨_, rfl, ⟨_, rfl, ?_⟩⟩
      cases hg1
      cases hv1
      exact Wk.tab ⟨Le.refl _, True.intro⟩ True.intro rfl
  refine Ok.ret ?_
  cases h
  exact Fz.v

theorem wo_lease_kept_api_Lease__lease_Back_1 {p_l : List api_Lease} {p_so_c0 : Int} {p_so_c1 : Int} {r : (List api_Lease)} (h : lease_kept_api_Lease__lease_Back_1 p_l p_so_c0 p_so_c1 = some r) : POwn Try.prog 35 [(.s (List.map c_api_Lease p_l)), (.c (.func 41) [] [(.p [(vi p_so_c0)]), (.p [(vi p_so_c1)])])] 26 7 (List.map c_api_Lease r) := by
  refine pown_of_ok (n := 23) (c := (Try.f35.body.getD .skip)) Try.tok Try.func35 (by kernel_rfl) rfl rfl (Nat.le_of_ble_eq_true rfl) ?_
  unfold lease_kept_api_Lease__lease_Back_1 at h
  refine Ok.wk (Wk.tab (L := [(0, (.s (List.map c_api_Lease p_l))), (1, (.c (.func 41) [] [(.p [(vi p_so_c0)]), (.p [(vi p_so_c1)])]))]) (H' := []) ⟨Le.refl _, Le.refl _, True.intro⟩ True.intro rfl) ?_
  refine Ok.seq ?_
  refine Ok.region Try.tok ?_
  refine Ok.wk (Wk.tab (L := [(0, (.s (List.map c_api_Lease p_l))), (1, (.c (.func 41) [] [(.p [(vi p_so_c0)]), (.p [(vi p_so_c1)])]))]) (H' := []) ⟨Le.refl _, Le.refl _, True.intro⟩ True.intro rfl) ?_
  refine Ok.seq ?_
  refine Ok.region Try.tok ?_
  refine Ok.wk (Wk.tab (L := [(0, (.s (List.map c_api_Lease p_l))), (1, (.c (.func 41) [] [(.p [(vi p_so_c0)]), (.p [(vi p_so_c1)])])), (5, (.v (.slice none 0 0)))]) (H' := []) ⟨Le.refl _, Le.refl _, Le.refl _, True.intro⟩ True.intro rfl) ?_
  obtain ⟨v1, hv1, h⟩ := bindS h
  refine Ok.seqw ⟨Cat.tab [(5, (.o 20))], [(20, .own 26 7 (List.map c_api_Lease v1))]⟩ ?_ ?_
  · refine Ok.seq ?_
    refine Ok.region Try.tok ?_
    refine ⟨_, List.length_map _, fun _ => ?_⟩
    refine Ok.wk (Wk.tab (L := [(1, (.c (.func 41) [] [(.p [(vi p_so_c0)]), (.p [(vi p_so_c1)])])), (5, (.v (.slice none 0 0))), (8, (.s (List.map c_api_Lease p_l))), (9, (vi ((p_l.length : Int)))), (10, (vi (0)))]) (H' := []) ⟨Le.refl _, Le.refl _, Le.refl _, Le.refl _, Le.refl _, True.intro⟩ True.intro rfl) ?_
    refine Ok.block ?_
    refine Ok.loop (fun (s1 : Int × (List api_Lease)) => ⟨Cat.tab [(1, (.c (.func 41) [] [(.p [(vi p_so_c0)]), (.p [(vi p_so_c1)])])), (5, (.o 20)), (8, (.s (List.map c_api_Lease p_l))), (9, (vi ((p_l.length : Int)))), (10, (vi s1.1))], [(20, .own 26 7 (List.map c_api_Lease s1.2))]⟩) (lease_kept_api_Lease__lease_Back_1_B1 p_l p_so_c0 p_so_c1) (s0 := (0, [])) hv1 ((Wk.own0 (t := 5) (id := 20) (E := 26) (K := 7) rfl rfl).trans (Wk.tab ⟨Le.refl _, Le.refl _, Le.refl _, Le.refl _, Le.refl _, True.intro⟩ ⟨⟨_, rfl, .refl _⟩, True.intro⟩ rfl)) ?_
    intro s1 y1 hB1 hy1
    unfold lease_kept_api_Lease__lease_Back_1_B1 at hB1
    refine Ok.seq ?_
    refine Ok.region Try.tok ?_
    refine Ok.wk (Wk.tab (L := [(1, (.c (.func 41) [] [(.p [(vi p_so_c0)]), (.p [(vi p_so_c1)])])), (5, (.o 20)), (8, (.s (List.map c_api_Lease p_l))), (9, (vi ((p_l.length : Int)))), (10, (vi s1.1)), (11, (vb ((decide (s1.1 < (p_l.length : Int))))))]) (H' := [(20, .own 26 7 (List.map c_api_Lease s1.2))]) ⟨Le.refl _, Le.refl _, Le.refl _, Le.refl _, Le.refl _, Le.refl _, True.intro⟩ ⟨⟨_, rfl, .refl _⟩, True.intro⟩ rfl) ?_
    refine Ok.seq ?_
    refine Ok.cond (d := 11) (b := (decide (s1.1 < (p_l.length : Int)))) rfl hB1 (fun hb hB1 => ?_) fun hb hB1 => ?_
    · refine Ok.skip ?_
      obtain ⟨v2, hv2, hB1⟩ := bindS hB1
      refine Ok.seqw ⟨Cat.tab [(1, (.c (.func 41) [] [(.p [(vi p_so_c0)]), (.p [(vi p_so_c1)])])), (5, (.o 20)), (8, (.s (List.map c_api_Lease p_l))), (9, (vi ((p_l.length : Int)))), (10, (vi s1.1))], [(20, .own 26 7 (List.map c_api_Lease v2))]⟩ ?_ ?_
      · refine Ok.block ?_
        refine Ok.seq ?_
        refine Ok.region Try.tok ?_
        obtain ⟨x1, hx1, hv2⟩ := bindS hv2
        refine ⟨_, idx_nat hx1, _, idx_row hx1, ⟨_, rfl, ⟨_, rfl, ?_⟩⟩⟩
        refine Ok.wk (Wk.tab (L := [(1, (.c (.func 41) [] [(.p [(vi p_so_c0)]), (.p [(vi p_so_c1)])])), (5, (.o 20)), (7, (.b 7 0)), (8, (.s (List.map c_api_Lease p_l))), (9, (vi ((p_l.length : Int)))), (10, (vi s1.1))]) (H' := [(20, .own 26 7 (List.map c_api_Lease s1.2)), (7, .box [(vi x1.Client), (vi x1.Ino), (vi x1.Kind), (vi x1.Span.From), (vi x1.Span.To), (vi x1.Until), (vi x1.Epoch)])]) ⟨Le.refl _, Le.refl _, Le.refl _, Le.refl _, Le.refl _, Le.refl _, True.intro⟩ ⟨⟨_, rfl, .refl _⟩, ⟨_, rfl, .refl _⟩, True.intro⟩ rfl) ?_
        refine Ok.seq ?_
        refine Ok.region Try.tok ?_
        obtain ⟨x2, hx2, hv2⟩ := bindS hv2
        refine ⟨_, rfl, ?_⟩
        refine CallOk.call (w_lease_Back_1 hx2) (LeL.refl _) ?_
        refine Ok.wk (Wk.tab (L := [(1, (.c (.func 41) [] [(.p [(vi p_so_c0)]), (.p [(vi p_so_c1)])])), (5, (.o 20)), (7, (.b 7 0)), (8, (.s (List.map c_api_Lease p_l))), (9, (vi ((p_l.length : Int)))), (10, (vi s1.1)), (16, (vb x2))]) (H' := [(20, .own 26 7 (List.map c_api_Lease s1.2)), (7, .box [(vi x1.Client), (vi x1.Ino), (vi x1.Kind), (vi x1.Span.From), (vi x1.Span.To), (vi x1.Until), (vi x1.Epoch)])]) ⟨Le.refl _, Le.refl _, Le.refl _, Le.refl _, Le.refl _, Le.refl _, Le.refl _, True.intro⟩ ⟨⟨_, rfl, .refl _⟩, ⟨_, rfl, .refl _⟩, True.intro⟩ rfl) ?_
        refine Ok.cond (d := 16) (b := x2) rfl hv2 (fun hb hv2 => ?_) fun hb hv2 => ?_
        · refine Ok.region Try.tok ?_
          obtain ⟨hc1, hv2⟩ := chk_some hv2
          refine ⟨_, rfl, Or.inl ⟨rowsLen_map (f := c_api_Lease) (n := 7) (fun _ => rfl) ([x1]), app_b2 (f := c_api_Lease) (l := s1.2) (l' := ([x1])) hc1, _, (List.map_append (f := c_api_Lease) (l₁ := s1.2) (l₂ := ([x1]))).symm, ?_⟩⟩
          cases hv2
          exact Wk.tab ⟨Le.refl _, Le.refl _, Le.refl _, Le.refl _, Le.refl _, True.intro⟩ ⟨⟨_, rfl, .refl _⟩, True.intro⟩ rfl
        · refine Ok.skip ?_
          cases hv2
          exact Wk.tab ⟨Le.refl _, Le.refl _, Le.refl _, Le.refl _, Le.refl _, True.intro⟩ ⟨⟨_, rfl, .refl _⟩, True.intro⟩ rfl
      refine Ok.region Try.tok ?_
      obtain ⟨hc2, hB1⟩ := chk_some hB1
      refine (Or.inl ⟨hc2, ?_⟩)
      exact ⟨_, (Option.some.inj hB1).symm, Wk.tab ⟨Le.refl _, Le.refl _, Le.refl _, Le.refl _, Le.refl _, True.intro⟩ ⟨⟨_, rfl, .refl _⟩, True.intro⟩ rfl⟩
    · refine Ok.exit ?_
      have hB1 := out_ret hB1 hy1
      cases hB1
      exact Wk.tab ⟨Le.refl _, True.intro⟩ ⟨⟨_, rfl, .refl _⟩, True.intro⟩ rfl
  refine Ok.seq ?_
  refine Ok.region Try.tok ?_
  refine Ok.wk (Wk.tab (L := [(4, (.o 20))]) (H' := [(20, .own 26 7 (List.map c_api_Lease v1))]) ⟨Le.refl _, True.intro⟩ ⟨⟨_, rfl, .refl _⟩, True.intro⟩ rfl) ?_
  refine Ok.ret ?_
  cases h
  exact (.inr ⟨_, rfl, rfl⟩)
theorem w_lease_kept_api_Lease__lease_Back_1 {p_l : List api_Lease} {p_so_c0 : Int} {p_so_c1 : Int} {r : (List api_Lease)} (h : lease_kept_api_Lease__lease_Back_1 p_l p_so_c0 p_so_c1 = some r) : Pure Try.prog 35 [(.s (List.map c_api_Lease p_l)), (.c (.func 41) [] [(.p [(vi p_so_c0)]), (.p [(vi p_so_c1)])])] (.s (List.map c_api_Lease r)) := (wo_lease_kept_api_Lease__lease_Back_1 h).pure

theorem wo_lease_Back {p_l : List api_Lease} {p_client : Int} {p_ino : Int} {r : (List api_Lease)} (h : lease_Back p_l p_client p_ino = some r) : POwn Try.prog 19 [(.s (List.map c_api_Lease p_l)), (vi p_client), (vi p_ino)] 26 7 (List.map c_api_Lease r) := by
  refine pown_of_ok (n := 10) (c := (Try.f19.body.getD .skip)) Try.tok Try.func19 (by kernel_rfl) rfl rfl (Nat.le_of_ble_eq_true rfl) ?_
  unfold lease_Back at h
  refine Ok.wk (Wk.tab (L := [(0, (.s (List.map c_api_Lease p_l))), (1, (vi p_client)), (2, (vi p_ino))]) (H' := []) ⟨Le.refl _, Le.refl _, Le.refl _, True.intro⟩ True.intro rfl) ?_
  refine Ok.seq ?_
  refine Ok.region Try.tok ?_
  refine Ok.wk (Wk.tab (L := [(0, (.s (List.map c_api_Lease p_l))), (4, (.b 4 0)), (5, (.b 5 0))]) (H' := [(4, .box [(vi p_client)]), (5, .box [(vi p_ino)])]) ⟨Le.refl _, Le.refl _, Le.refl _, True.intro⟩ ⟨⟨_, rfl, .refl _⟩, ⟨_, rfl, .refl _⟩, True.intro⟩ rfl) ?_
  refine Ok.seq ?_
  refine Ok.region Try.tok ?_
  obtain ⟨x1, hx1, h⟩ := bindS h
  refine CallOk.ownLend (D := 9) (wo_lease_kept_api_Lease__lease_Back_1 hx1) (.cons Fz.s (.cons (Fz.c .nil (.cons (Fz.b rfl rfl) (.cons (Fz.b rfl rfl) .nil))) (.nil))) (rowsPlain (f := c_api_Lease) (fun _ => rfl) _) rfl ?_
  refine Ok.wk (Wk.tab (L := [(6, (.o 9))]) (H' := [(9, .own 26 7 (List.map c_api_Lease x1))]) ⟨Le.refl _, True.intro⟩ ⟨⟨_, rfl, .refl _⟩, True.intro⟩ rfl) ?_
  refine Ok.ret ?_
  cases h
  exact (.inr ⟨_, rfl, rfl⟩)
theorem w_lease_Back {p_l : List api_Lease} {p_client : Int} {p_ino : Int} {r : (List api_Lease)} (h : lease_Back p_l p_client p_ino = some r) : Pure Try.prog 19 [(.s (List.map c_api_Lease p_l)), (vi p_client), (vi p_ino)] (.s (List.map c_api_Lease r)) := (wo_lease_Back h).pure

theorem w_lease_Right_1 {p_y : api_Lease} {p_a1_0 : Int} {p_a1_1 : Int} {p_a1_2 : Int} {p_a1_3 : Int} {p_a1_4 : Int} {p_a1_5 : Int} {p_a1_6 : Int} {r : Bool} (h : lease_Right_1 p_y p_a1_0 p_a1_1 p_a1_2 p_a1_3 p_a1_4 p_a1_5 p_a1_6 = some r) : Pure Try.prog 33 [(.a [(vi p_y.Client), (vi p_y.Ino), (vi p_y.Kind), (vi p_y.Span.From), (vi p_y.Span.To), (vi p_y.Until), (vi p_y.Epoch)]), (.p [(vi p_a1_0), (vi p_a1_1), (vi p_a1_2), (vi p_a1_3), (vi p_a1_4), (vi p_a1_5), (vi p_a1_6)])] (vb r) := by
  refine pure_of_ok (n := 7) (c := (Try.f33.body.getD .skip)) Try.tok Try.func33 (by kernel_rfl) rfl rfl (Nat.le_of_ble_eq_true rfl) ?_
  unfold lease_Right_1 at h
  refine Ok.wk (Wk.tab (L := [(0, (.a [(vi p_y.Client), (vi p_y.Ino), (vi p_y.Kind), (vi p_y.Span.From), (vi p_y.Span.To), (vi p_y.Until), (vi p_y.Epoch)])), (1, (.p [(vi p_a1_0), (vi p_a1_1), (vi p_a1_2), (vi p_a1_3), (vi p_a1_4), (vi p_a1_5), (vi p_a1_6)]))]) (H' := []) ⟨Le.refl _, Le.refl _, True.intro⟩ True.intro rfl) ?_
  refine Ok.seq ?_
  refine Ok.region Try.tok ?_
  refine Ok.wk (Wk.tab (L := [(1, (.p [(vi p_a1_0), (vi p_a1_1), (vi p_a1_2), (vi p_a1_3), (vi p_a1_4), (vi p_a1_5), (vi p_a1_6)])), (2, (.b 2 0))]) (H' := [(2, .box [(vi p_y.Client), (vi p_y.Ino), (vi p_y.Kind), (vi p_y.Span.From), (vi p_y.Span.To), (vi p_y.Until), (vi p_y.Epoch)])]) ⟨Le.refl _, Le.refl _, True.intro⟩ ⟨⟨_, rfl, .refl _⟩, True.intro⟩ rfl) ?_
  refine Ok.seq ?_
  refine Ok.region Try.tok ?_
  obtain ⟨x1, hx1, h⟩ := bindS h
  refine ⟨_, rfl, ⟨_, rfl, ?_⟩⟩
  refine CallOk.call (w_lease_clash hx1) (LeL.refl _) ?_
  refine Ok.wk (Wk.tab (L := [(3, (vb x1))]) (H' := []) ⟨Le.refl _, True.intro⟩ True.intro rfl) ?_
  refine Ok.ret ?_
  cases h
  exact Fz.v

theorem w_slices_IndexFunc_api_Lease_api_Lease__lease_Right_1 {p_s : List api_Lease} {p_f_c0_0 : Int} {p_f_c0_1 : Int} {p_f_c0_2 : Int} {p_f_c0_3 : Int} {p_f_c0_4 : Int} {p_f_c0_5 : Int} {p_f_c0_6 : Int} {r : Int} (h : slices_IndexFunc_api_Lease_api_Lease__lease_Right_1 p_s p_f_c0_0 p_f_c0_1 p_f_c0_2 p_f_c0_3 p_f_c0_4 p_f_c0_5 p_f_c0_6 = some r) : Pure Try.prog 56 [(.s (List.map c_api_Lease p_s)), (.c (.func 33) [] [(.p [(vi p_f_c0_0), (vi p_f_c0_1), (vi p_f_c0_2), (vi p_f_c0_3), (vi p_f_c0_4), (vi p_f_c0_5), (vi p_f_c0_6)])])] (vi r) := by
  refine pure_of_ok (n := 19) (c := (Try.f56.body.getD .skip)) Try.tok Try.func56 (by kernel_rfl) rfl rfl (Nat.le_of_ble_eq_true rfl) ?_
  unfold slices_IndexFunc_api_Lease_api_Lease__lease_Right_1 at h
  refine Ok.wk (Wk.tab (L := [(0, (.s (List.map c_api_Lease p_s))), (1, (.c (.func 33) [] [(.p [(vi p_f_c0_0), (vi p_f_c0_1), (vi p_f_c0_2), (vi p_f_c0_3), (vi p_f_c0_4), (vi p_f_c0_5), (vi p_f_c0_6)])]))]) (H' := []) ⟨Le.refl _, Le.refl _, True.intro⟩ True.intro rfl) ?_
  refine Ok.seq ?_
  refine Ok.region Try.tok ?_
  refine Ok.wk (Wk.tab (L := [(0, (.s (List.map c_api_Lease p_s))), (1, (.c (.func 33) [] [(.p [(vi p_f_c0_0), (vi p_f_c0_1), (vi p_f_c0_2), (vi p_f_c0_3), (vi p_f_c0_4), (vi p_f_c0_5), (vi p_f_c0_6)])]))]) (H' := []) ⟨Le.refl _, Le.refl _, True.intro⟩ True.intro rfl) ?_
  refine Ok.seqj (fun v1 => ⟨Cat.tab [], []⟩) (fun v1 => slices_IndexFunc_api_Lease_api_Lease__lease_Right_1_J1 v1 = some r) ?_ ?_
  · refine Ok.seq ?_
    refine Ok.region Try.tok ?_
    refine ⟨_, List.length_map _, fun _ => ?_⟩
    refine Ok.wk (Wk.tab (L := [(0, (.s (List.map c_api_Lease p_s))), (1, (.c (.func 33) [] [(.p [(vi p_f_c0_0), (vi p_f_c0_1), (vi p_f_c0_2), (vi p_f_c0_3), (vi p_f_c0_4), (vi p_f_c0_5), (vi p_f_c0_6)])])), (7, (vi ((p_s.length : Int)))), (8, (vi (0)))]) (H' := []) ⟨Le.refl _, Le.refl _, Le.refl _, Le.refl _, True.intro⟩ True.intro rfl) ?_
    refine Ok.block ?_
    refine Ok.loop (fun (s1 : Int) => ⟨Cat.tab [(0, (.s (List.map c_api_Lease p_s))), (1, (.c (.func 33) [] [(.p [(vi p_f_c0_0), (vi p_f_c0_1), (vi p_f_c0_2), (vi p_f_c0_3), (vi p_f_c0_4), (vi p_f_c0_5), (vi p_f_c0_6)])])), (7, (vi ((p_s.length : Int)))), (8, (vi s1))], []⟩) (slices_IndexFunc_api_Lease_api_Lease__lease_Right_1_B1 p_s p_f_c0_0 p_f_c0_1 p_f_c0_2 p_f_c0_3 p_f_c0_4 p_f_c0_5 p_f_c0_6) (s0 := 0) h (Wk.tab ⟨Le.refl _, Le.refl _, Le.refl _, Le.refl _, True.intro⟩ True.intro rfl) ?_
    intro s1 y1 hB1 hy1
    unfold slices_IndexFunc_api_Lease_api_Lease__lease_Right_1_B1 at hB1
    refine Ok.seq ?_
    refine Ok.region Try.tok ?_
    refine Ok.wk (Wk.tab (L := [(0, (.s (List.map c_api_Lease p_s))), (1, (.c (.func 33) [] [(.p [(vi p_f_c0_0), (vi p_f_c0_1), (vi p_f_c0_2), (vi p_f_c0_3), (vi p_f_c0_4), (vi p_f_c0_5), (vi p_f_c0_6)])])), (7, (vi ((p_s.length : Int)))), (8, (vi s1)), (9, (vb ((decide (s1 < (p_s.length : Int))))))]) (H' := []) ⟨Le.refl _, Le.refl _, Le.refl _, Le.refl _, Le.refl _, True.intro⟩ True.intro rfl) ?_
    refine Ok.seq ?_
    refine Ok.cond (d := 9) (b := (decide (s1 < (p_s.length : Int)))) rfl hB1 (fun hb hB1 => ?_) fun hb hB1 => ?_
    · refine Ok.skip ?_
      refine Ok.seq ?_
      refine Ok.block ?_
      refine Ok.seq ?_
      refine Ok.region Try.tok ?_
      refine Ok.wk (Wk.tab (L := [(0, (.s (List.map c_api_Lease p_s))), (1, (.c (.func 33) [] [(.p [(vi p_f_c0_0), (vi p_f_c0_1), (vi p_f_c0_2), (vi p_f_c0_3), (vi p_f_c0_4), (vi p_f_c0_5), (vi p_f_c0_6)])])), (5, (vi s1)), (7, (vi ((p_s.length : Int)))), (8, (vi s1))]) (H' := []) ⟨Le.refl _, Le.refl _, Le.refl _, Le.refl _, Le.refl _, True.intro⟩ True.intro rfl) ?_
      refine Ok.seq ?_
      refine Ok.region Try.tok ?_
      obtain ⟨x1, hx1, hB1⟩ := bindS hB1
      obtain ⟨x2, hx2, hB1⟩ := bindS hB1
      refine ⟨_, idx_nat hx1, _, idx_row hx1, ⟨_, rfl, ?_⟩⟩
      refine CallOk.call (w_lease_Right_1 hx2) (LeL.refl _) ?_
      refine Ok.wk (Wk.tab (L := [(0, (.s (List.map c_api_Lease p_s))), (1, (.c (.func 33) [] [(.p [(vi p_f_c0_0), (vi p_f_c0_1), (vi p_f_c0_2), (vi p_f_c0_3), (vi p_f_c0_4), (vi p_f_c0_5), (vi p_f_c0_6)])])), (5, (vi s1)), (7, (vi ((p_s.length : Int)))), (8, (vi s1)), (16, (vb x2))]) (H' := []) ⟨Le.refl _, Le.refl _, Le.refl _, Le.refl _, Le.refl _, Le.refl _, True.intro⟩ True.intro rfl) ?_
      refine Ok.cond (d := 16) (b := x2) rfl hB1 (fun hb hB1 => ?_) fun hb hB1 => ?_
      · refine Ok.seq ?_
        refine Ok.region Try.tok ?_
        refine Ok.wk (Wk.tab (L := [(4, (vi s1))]) (H' := []) ⟨Le.refl _, True.intro⟩ True.intro rfl) ?_
        refine Ok.ret ?_
        have hB1 := out_ret hB1 hy1
        cases hB1
        exact Fz.v
      · refine Ok.skip ?_
        refine Ok.region Try.tok ?_
        obtain ⟨hc1, hB1⟩ := chk_some hB1
        refine (Or.inl ⟨hc1, ?_⟩)
        exact ⟨_, (Option.some.inj hB1).symm, Wk.tab ⟨Le.refl _, Le.refl _, Le.refl _, Le.refl _, True.intro⟩ True.intro rfl⟩
    · refine Ok.exit ?_
      have hB1 := out_ret hB1 hy1
      exact ⟨_, hB1, Wk.tab True.intro True.intro rfl⟩
  intro v1 h
  unfold slices_IndexFunc_api_Lease_api_Lease__lease_Right_1_J1 at h
  refine Ok.seq ?_
  refine Ok.region Try.tok ?_
  refine Ok.wk (Wk.tab (L := [(4, (vi ((-1))))]) (H' := []) ⟨Le.refl _, True.intro⟩ True.intro rfl) ?_
  refine Ok.ret ?_
  cases h
  exact Fz.v

theorem w_slices_ContainsFunc_api_Lease_api_Lease__lease_Right_1 {p_s : List api_Lease} {p_f_c0 : api_Lease} {r : Bool} (h : slices_ContainsFunc_api_Lease_api_Lease__lease_Right_1 p_s p_f_c0 = some r) : Pure Try.prog 32 [(.s (List.map c_api_Lease p_s)), (.c (.func 33) [] [(.p [(vi p_f_c0.Client), (vi p_f_c0.Ino), (vi p_f_c0.Kind), (vi p_f_c0.Span.From), (vi p_f_c0.Span.To), (vi p_f_c0.Until), (vi p_f_c0.Epoch)])])] (vb r) := by
  refine pure_of_ok (n := 9) (c := (Try.f32.body.getD .skip)) Try.tok Try.func32 (by kernel_rfl) rfl rfl (Nat.le_of_ble_eq_true rfl) ?_
  unfold slices_ContainsFunc_api_Lease_api_Lease__lease_Right_1 at h
  refine Ok.wk (Wk.tab (L := [(0, (.s (List.map c_api_Lease p_s))), (1, (.c (.func 33) [] [(.p [(vi p_f_c0.Client), (vi p_f_c0.Ino), (vi p_f_c0.Kind), (vi p_f_c0.Span.From), (vi p_f_c0.Span.To), (vi p_f_c0.Until), (vi p_f_c0.Epoch)])]))]) (H' := []) ⟨Le.refl _, Le.refl _, True.intro⟩ True.intro rfl) ?_
  refine Ok.seq ?_
  refine Ok.region Try.tok ?_
  refine Ok.wk (Wk.tab (L := [(0, (.s (List.map c_api_Lease p_s))), (1, (.c (.func 33) [] [(.p [(vi p_f_c0.Client), (vi p_f_c0.Ino), (vi p_f_c0.Kind), (vi p_f_c0.Span.From), (vi p_f_c0.Span.To), (vi p_f_c0.Until), (vi p_f_c0.Epoch)])]))]) (H' := []) ⟨Le.refl _, Le.refl _, True.intro⟩ True.intro rfl) ?_
  refine Ok.seq ?_
  refine Ok.region Try.tok ?_
  obtain ⟨x1, hx1, h⟩ := bindS h
  refine CallOk.call (w_slices_IndexFunc_api_Lease_api_Lease__lease_Right_1 hx1) (LeL.refl _) ?_
  refine Ok.wk (Wk.tab (L := [(4, (vb ((decide (x1 ≥ 0)))))]) (H' := []) ⟨Le.refl _, True.intro⟩ True.intro rfl) ?_
  refine Ok.ret ?_
  cases h
  exact Fz.v

theorem w_lease_Right {p_l : List api_Lease} {r : Bool} (h : lease_Right p_l = some r) : Pure Try.prog 10 [(.s (List.map c_api_Lease p_l))] (vb r) := by
  refine pure_of_ok (n := 26) (c := (Try.f10.body.getD .skip)) Try.tok Try.func10 (by kernel_rfl) rfl rfl (Nat.le_of_ble_eq_true rfl) ?_
  unfold lease_Right at h
  refine Ok.wk (Wk.tab (L := [(0, (.s (List.map c_api_Lease p_l)))]) (H' := []) ⟨Le.refl _, True.intro⟩ True.intro rfl) ?_
  refine Ok.seq ?_
  refine Ok.region Try.tok ?_
  refine Ok.wk (Wk.tab (L := [(0, (.s (List.map c_api_Lease p_l)))]) (H' := []) ⟨Le.refl _, True.intro⟩ True.intro rfl) ?_
  refine Ok.seq ?_
  refine Ok.seq ?_
  refine Ok.region Try.tok ?_
  refine ⟨_, List.length_map _, fun _ => ?_⟩
  refine Ok.wk (Wk.tab (L := [(0, (.s (List.map c_api_Lease p_l))), (7, (vb ((decide ((p_l.length : Int) > 64)))))]) (H' := []) ⟨Le.refl _, Le.refl _, True.intro⟩ True.intro rfl) ?_
  refine Ok.cond (d := 7) (b := (decide ((p_l.length : Int) > 64))) rfl h (fun hb h => ?_) fun hb h => ?_
  · refine Ok.seq ?_
    refine Ok.region Try.tok ?_
    refine Ok.wk (Wk.tab (L := [(2, (vb false))]) (H' := []) ⟨Le.refl _, True.intro⟩ True.intro rfl) ?_
    refine Ok.ret ?_
    cases h
    exact Fz.v
  · refine Ok.skip ?_
    refine Ok.seqj (fun v1 => ⟨Cat.tab [], []⟩) (fun v1 => lease_Right_J1 v1 = some r) ?_ ?_
    · refine Ok.seq ?_
      refine Ok.region Try.tok ?_
      refine ⟨_, List.length_map _, fun _ => ?_⟩
      refine Ok.wk (Wk.tab (L := [(0, (.s (List.map c_api_Lease p_l))), (8, (.s (List.map c_api_Lease p_l))), (9, (vi ((p_l.length : Int)))), (10, (vi (0)))]) (H' := []) ⟨Le.refl _, Le.refl _, Le.refl _, Le.refl _, True.intro⟩ True.intro rfl) ?_
      refine Ok.block ?_
      refine Ok.loop (fun (s1 : Int) => ⟨Cat.tab [(0, (.s (List.map c_api_Lease p_l))), (8, (.s (List.map c_api_Lease p_l))), (9, (vi ((p_l.length : Int)))), (10, (vi s1))], []⟩) (lease_Right_B1 p_l) (s0 := 0) h (Wk.tab ⟨Le.refl _, Le.refl _, Le.refl _, Le.refl _, True.intro⟩ True.intro rfl) ?_
      intro s1 y1 hB1 hy1
      unfold lease_Right_B1 at hB1
      refine Ok.seq ?_
      refine Ok.region Try.tok ?_
      refine Ok.wk (Wk.tab (L := [(0, (.s (List.map c_api_Lease p_l))), (8, (.s (List.map c_api_Lease p_l))), (9, (vi ((p_l.length : Int)))), (10, (vi s1)), (11, (vb ((decide (s1 < (p_l.length : Int))))))]) (H' := []) ⟨Le.refl _, Le.refl _, Le.refl _, Le.refl _, Le.refl _, True.intro⟩ True.intro rfl) ?_
      refine Ok.seq ?_
      refine Ok.cond (d := 11) (b := (decide (s1 < (p_l.length : Int)))) rfl hB1 (fun hb hB1 => ?_) fun hb hB1 => ?_
      · refine Ok.skip ?_
        refine Ok.seq ?_
        refine Ok.block ?_
        refine Ok.seq ?_
        refine Ok.region Try.tok ?_
        obtain ⟨x1, hx1, hB1⟩ := bindS hB1
        refine ⟨_, idx_nat hx1, _, idx_row hx1, ⟨_, rfl, ⟨_, rfl, ?_⟩⟩⟩
        refine Ok.wk (Wk.tab (L := [(0, (.s (List.map c_api_Lease p_l))), (3, (vi s1)), (4, (.b 4 0)), (8, (.s (List.map c_api_Lease p_l))), (9, (vi ((p_l.length : Int)))), (10, (vi s1))]) (H' := [(4, .box [(vi x1.Client), (vi x1.Ino), (vi x1.Kind), (vi x1.Span.From), (vi x1.Span.To), (vi x1.Until), (vi x1.Epoch)])]) ⟨Le.refl _, Le.refl _, Le.refl _, Le.refl _, Le.refl _, Le.refl _, True.intro⟩ ⟨⟨_, rfl, .refl _⟩, True.intro⟩ rfl) ?_
        obtain ⟨v2, hv2, hB1⟩ := bindS hB1
        refine Ok.seqw ⟨Cat.tab [(0, (.s (List.map c_api_Lease p_l))), (8, (.s (List.map c_api_Lease p_l))), (9, (vi ((p_l.length : Int)))), (10, (vi s1)), (24, (vb v2))], []⟩ ?_ ?_
        · refine Ok.region Try.tok ?_
          obtain ⟨x2, hx2, hv2⟩ := bindS hv2
          refine ⟨_, rfl, ?_⟩
          refine CallOk.call (w_lease_one hx2) (LeL.refl _) ?_
          obtain ⟨c1, hg1, hv2⟩ := bindS hv2
          refine Br.itf hg1 (fun hb hg1 => ?_) fun hb hg1 => ?_
          · cases hg1
            cases hv2
            exact Wk.tab ⟨Le.refl _, Le.refl _, Le.refl _, Le.refl _, Le.refl _, True.intro⟩ True.intro rfl
          · obtain ⟨hc1, hg1⟩ := chk_some hg1
            obtain ⟨x3, hx3, hg1⟩ := bindS hg1
            refine ⟨_, sl_nat hc1.1, Nat.zero_le _, sl_len hc1, rowsK (f := c_api_Lease) (K := 7) (fun _ => rfl) p_l, _, sl_take _ _ _, ?_⟩
            refine CallOk.borrow (w_slices_ContainsFunc_api_Lease_api_Lease__lease_Right_1 hx3) (.cons Fz.s (.cons (Fz.c .nil (.cons (Fz.b rfl rfl) .nil)) (.nil))) rfl ?_
            cases hg1
            cases hv2
            exact Wk.tab ⟨Le.refl _, Le.refl _, Le.refl _, Le.refl _, Le.refl _, True.intro⟩ True.intro rfl
        refine Ok.cond (d := 24) (b := v2) rfl hB1 (fun hb hB1 => ?_) fun hb hB1 => ?_
        · refine Ok.seq ?_
          refine Ok.region Try.tok ?_
          refine Ok.wk (Wk.tab (L := [(2, (vb false))]) (H' := []) ⟨Le.refl _, True.intro⟩ True.intro rfl) ?_
          refine Ok.ret ?_
          have hB1 := out_ret hB1 hy1
          cases hB1
          exact Fz.v
        · refine Ok.skip ?_
          refine Ok.region Try.tok ?_
          obtain ⟨hc2, hB1⟩ := chk_some hB1
          refine (Or.inl ⟨hc2, ?_⟩)
          exact ⟨_, (Option.some.inj hB1).symm, Wk.tab ⟨Le.refl _, Le.refl _, Le.refl _, Le.refl _, True.intro⟩ True.intro rfl⟩
      · refine Ok.exit ?_
        have hB1 := out_ret hB1 hy1
        exact ⟨_, hB1, Wk.tab True.intro True.intro rfl⟩
    intro v1 h
    unfold lease_Right_J1 at h
    refine Ok.seq ?_
    refine Ok.region Try.tok ?_
    refine Ok.wk (Wk.tab (L := [(2, (vb true))]) (H' := []) ⟨Le.refl _, True.intro⟩ True.intro rfl) ?_
    refine Ok.ret ?_
    cases h
    exact Fz.v

theorem w_law22_head [Off] {r : Bool} (h : law22_head = some r) : Pure Try.prog 9 [] (vb r) := by
  refine pure_of_ok (n := 158) (c := (Try.f9.body.getD .skip)) Try.tok Try.func9 (by kernel_rfl) rfl rfl (Nat.le_of_ble_eq_true rfl) ?_
  unfold law22_head at h
  refine Ok.wk (Wk.tab (L := []) (H' := []) True.intro True.intro rfl) ?_
  refine Ok.seq ?_
  refine Ok.region Try.tok ?_
  refine Ok.wk (Wk.tab (L := []) (H' := []) True.intro True.intro rfl) ?_
  refine Ok.seq ?_
  refine Ok.region Try.tok ?_
  obtain ⟨x1, hx1, h⟩ := bindS h
  refine CallOk.call (w_law22_ask hx1) (LeL.refl _) ?_
  obtain ⟨x2, hx2, h⟩ := bindS h
  refine CallOk.call (w_lease_Ask hx2) (.cons (Le.nil) (.cons (Le.refl _) (.cons (Le.refl _) (.cons (Le.refl _) (.nil))))) ?_
  refine Ok.wk (Wk.tab (L := [(1, (.s (List.map c_api_Lease x2.1))), (2, (vb x2.2.1))]) (H' := []) ⟨Le.refl _, Le.refl _, True.intro⟩ True.intro rfl) ?_
  refine Ok.seq ?_
  refine Ok.region Try.tok ?_
  obtain ⟨x3, hx3, h⟩ := bindS h
  refine CallOk.call (w_law22_ask hx3) (LeL.refl _) ?_
  obtain ⟨x4, hx4, h⟩ := bindS h
  refine CallOk.call (w_lease_Ask hx4) (LeL.refl _) ?_
  refine Ok.wk (Wk.tab (L := [(1, (.s (List.map c_api_Lease x2.1))), (2, (vb x2.2.1)), (5, (vb x4.2.1)), (6, (.s (List.map Go.Cat.encI x4.2.2)))]) (H' := []) ⟨Le.refl _, Le.refl _, Le.refl _, Le.refl _, True.intro⟩ True.intro rfl) ?_
  refine Ok.seq ?_
  refine Ok.region Try.tok ?_
  obtain ⟨x5, hx5, h⟩ := bindS h
  refine CallOk.call (w_law22_ask hx5) (LeL.refl _) ?_
  obtain ⟨x6, hx6, h⟩ := bindS h
  refine CallOk.call (w_lease_Ask hx6) (LeL.refl _) ?_
  refine Ok.wk (Wk.tab (L := [(1, (.s (List.map c_api_Lease x2.1))), (2, (vb x2.2.1)), (5, (vb x4.2.1)), (6, (.s (List.map Go.Cat.encI x4.2.2))), (7, (.s (List.map c_api_Lease x6.1))), (8, (vb x6.2.1))]) (H' := []) ⟨Le.refl _, Le.refl _, Le.refl _, Le.refl _, Le.refl _, Le.refl _, True.intro⟩ True.intro rfl) ?_
  refine Ok.seq ?_
  refine Ok.region Try.tok ?_
  obtain ⟨x7, hx7, h⟩ := bindS h
  refine CallOk.call (w_law22_ask hx7) (LeL.refl _) ?_
  obtain ⟨x8, hx8, h⟩ := bindS h
  refine CallOk.call (w_lease_Ask hx8) (LeL.refl _) ?_
  refine Ok.wk (Wk.tab (L := [(1, (.s (List.map c_api_Lease x2.1))), (2, (vb x2.2.1)), (5, (vb x4.2.1)), (6, (.s (List.map Go.Cat.encI x4.2.2))), (7, (.s (List.map c_api_Lease x6.1))), (8, (vb x6.2.1)), (10, (.s (List.map c_api_Lease x8.1))), (11, (vb x8.2.1))]) (H' := []) ⟨Le.refl _, Le.refl _, Le.refl _, Le.refl _, Le.refl _, Le.refl _, Le.refl _, Le.refl _, True.intro⟩ True.intro rfl) ?_
  refine Ok.seq ?_
  refine Ok.region Try.tok ?_
  obtain ⟨x9, hx9, h⟩ := bindS h
  refine CallOk.call (w_law22_ask hx9) (LeL.refl _) ?_
  obtain ⟨x10, hx10, h⟩ := bindS h
  refine CallOk.call (w_lease_Ask hx10) (LeL.refl _) ?_
  refine Ok.wk (Wk.tab (L := [(1, (.s (List.map c_api_Lease x2.1))), (2, (vb x2.2.1)), (5, (vb x4.2.1)), (6, (.s (List.map Go.Cat.encI x4.2.2))), (7, (.s (List.map c_api_Lease x6.1))), (8, (vb x6.2.1)), (10, (.s (List.map c_api_Lease x8.1))), (11, (vb x8.2.1)), (13, (.s (List.map c_api_Lease x10.1))), (14, (vb x10.2.1))]) (H' := []) ⟨Le.refl _, Le.refl _, Le.refl _, Le.refl _, Le.refl _, Le.refl _, Le.refl _, Le.refl _, Le.refl _, Le.refl _, True.intro⟩ True.intro rfl) ?_
  refine Ok.seq ?_
  obtain ⟨v1, hv1, h⟩ := bindS h
  refine Ok.seqw ⟨Cat.tab [(1, (.s (List.map c_api_Lease x2.1))), (2, (vb x2.2.1)), (5, (vb x4.2.1)), (6, (.s (List.map Go.Cat.encI x4.2.2))), (7, (.s (List.map c_api_Lease x6.1))), (8, (vb x6.2.1)), (10, (.s (List.map c_api_Lease x8.1))), (11, (vb x8.2.1)), (13, (.s (List.map c_api_Lease x10.1))), (14, (vb x10.2.1)), (67, (vb v1))], []⟩ ?_ ?_
  · refine Ok.region Try.tok ?_
    refine ⟨_, List.length_map _, fun _ => ?_⟩
    obtain ⟨c1, hg1, hv1⟩ := bindS hv1
    refine Br.itf hg1 (fun hb hg1 => ?_) fun hb hg1 => ?_
    · cases hg1
      obtain ⟨c2, hg2, hv1⟩ := bindS hv1
      replace hg2 := iteT hg2
      cases hg2
      obtain ⟨c3, hg3, hv1⟩ := bindS hv1
      replace hg3 := iteT hg3
      cases hg3
      cases hv1
      exact Wk.tab ⟨Le.refl _, Le.refl _, Le.refl _, Le.refl _, Le.refl _, Le.refl _, Le.refl _, Le.refl _, Le.refl _, Le.refl _, Le.refl _, True.intro⟩ True.intro rfl
    · refine ⟨_, List.length_map _, fun _ => ?_⟩
      cases hg1
      obtain ⟨c2, hg4, hv1⟩ := bindS hv1
      refine Br.itf hg4 (fun hb hg4 => ?_) fun hb hg4 => ?_
      · cases hg4
        obtain ⟨c3, hg5, hv1⟩ := bindS hv1
        replace hg5 := iteT hg5
        cases hg5
        cases hv1
        exact Wk.tab ⟨Le.refl _, Le.refl _, Le.refl _, Le.refl _, Le.refl _, Le.refl _, Le.refl _, Le.refl _, Le.refl _, Le.refl _, Le.refl _, True.intro⟩ True.intro rfl
      · refine ⟨_, List.length_map _, fun _ => ?_⟩
        cases hg4
        obtain ⟨c3, hg6, hv1⟩ := bindS hv1
        refine Br.itf hg6 (fun hb hg6 => ?_) fun hb hg6 => ?_
        · cases hg6
          cases hv1
          exact Wk.tab ⟨Le.refl _, Le.refl _, Le.refl _, Le.refl _, Le.refl _, Le.refl _, Le.refl _, Le.refl _, Le.refl _, Le.refl _, Le.refl _, True.intro⟩ True.intro rfl
        · refine ⟨_, List.length_map _, fun _ => ?_⟩
          cases hg6
          cases hv1
          exact Wk.tab ⟨Le.refl _, Le.refl _, Le.refl _, Le.refl _, Le.refl _, Le.refl _, Le.refl _, Le.refl _, Le.refl _, Le.refl _, Le.refl _, True.intro⟩ True.intro rfl
  refine Ok.cond (d := 67) (b := v1) rfl h (fun hb h => ?_) fun hb h => ?_
  · refine Ok.seq ?_
    refine Ok.region Try.tok ?_
    refine Ok.wk (Wk.tab (L := [(0, (vb false))]) (H' := []) ⟨Le.refl _, True.intro⟩ True.intro rfl) ?_
    refine Ok.ret ?_
    cases h
    exact Fz.v
  · refine Ok.skip ?_
    obtain ⟨v2, hv2, h⟩ := bindS h
    refine Ok.seqw ⟨Cat.tab [(0, (vb v2))], []⟩ ?_ ?_
    · refine Ok.region Try.tok ?_
      obtain ⟨c4, hg7, hv2⟩ := bindS hv2
      refine Br.ite hg7 (fun hb hg7 => ?_) fun hb hg7 => ?_
      · obtain ⟨x11, hx11, hg7⟩ := bindS hg7
        refine ⟨_, idx_nat hx11, _, idx_row hx11, ⟨_, rfl, ?_⟩⟩
        cases hg7
        obtain ⟨c5, hg8, hv2⟩ := bindS hv2
        refine Br.ite hg8 (fun hb hg8 => ?_) fun hb hg8 => ?_
        · cases hg8
          obtain ⟨c6, hg9, hv2⟩ := bindS hv2
          refine Br.ite hg9 (fun hb hg9 => ?_) fun hb hg9 => ?_
          · obtain ⟨x12, hx12, hg9⟩ := bindS hg9
            refine Or.inl ?_
            refine CallOk.norm (L := [(7, (.s (List.map c_api_Lease x6.1))), (8, (vb x6.2.1)), (10, (.s (List.map c_api_Lease x8.1))), (11, (vb x8.2.1)), (13, (.s (List.map c_api_Lease x10.1))), (14, (vb x10.2.1)), (80, .v (.bool true)), (81, (.s (List.map Go.Cat.encI x4.2.2))), (82, (.s (List.map Go.Cat.encI ([1]))))]) (H' := []) (LeL.refl _) ⟨Le.refl _, Le.refl _, Le.refl _, Le.refl _, Le.refl _, Le.refl _, Le.refl _, Le.refl _, Le.refl _, True.intro⟩ True.intro rfl (CallOk.call (w_ref14_Ints hx12) (LeL.refl _) ?_)
            cases hg9
            obtain ⟨c7, hg10, hv2⟩ := bindS hv2
            refine Br.ite hg10 (fun hb hg10 => ?_) fun hb hg10 => ?_
            · cases hg10
              obtain ⟨c8, hg11, hv2⟩ := bindS hv2
              refine Br.ite hg11 (fun hb hg11 => ?_) fun hb hg11 => ?_
              · cases hg11
                obtain ⟨c9, hg12, hv2⟩ := bindS hv2
                refine Br.ite hg12 (fun hb hg12 => ?_) fun hb hg12 => ?_
                · obtain ⟨x13, hx13, hg12⟩ := bindS hg12
                  refine ⟨_, idx_nat hx13, _, idx_row hx13, ⟨_, rfl, ?_⟩⟩
                  cases hg12
                  obtain ⟨c10, hg13, hv2⟩ := bindS hv2
                  refine Br.ite hg13 (fun hb hg13 => ?_) fun hb hg13 => ?_
                  · obtain ⟨x14, hx14, hg13⟩ := bindS hg13
                    refine ⟨_, idx_nat hx14, _, idx_row hx14, ⟨_, rfl, ?_⟩⟩
                    cases hg13
                    obtain ⟨c11, hg14, hv2⟩ := bindS hv2
                    refine Br.ite hg14 (fun hb hg14 => ?_) fun hb hg14 => ?_
                    · cases hg14
                      obtain ⟨c12, hg15, hv2⟩ := bindS hv2
                      refine Br.ite hg15 (fun hb hg15 => ?_) fun hb hg15 => ?_
                      · obtain ⟨x15, hx15, hg15⟩ := bindS hg15
                        refine ⟨_, idx_nat hx15, _, idx_row hx15, ⟨_, rfl, ?_⟩⟩
                        cases hg15
                        obtain ⟨c13, hg16, hv2⟩ := bindS hv2
                        refine Br.ite hg16 (fun hb hg16 => ?_) fun hb hg16 => ?_
                        · obtain ⟨x16, hx16, hg16⟩ := bindS hg16
                          refine CallOk.norm (L := [(7, (.s (List.map c_api_Lease x6.1))), (115, .v (.bool true)), (116, (.s (List.map c_api_Lease x6.1))), (117, (.a [(vi (2)), (vi (8))]))]) (H' := []) (LeL.refl _) ⟨Le.refl _, Le.refl _, Le.refl _, Le.refl _, True.intro⟩ True.intro rfl (CallOk.call (w_lease_Has hx16) (LeL.refl _) ?_)
                          cases hg16
                          obtain ⟨c14, hg17, hv2⟩ := bindS hv2
                          refine Br.ite hg17 (fun hb hg17 => ?_) fun hb hg17 => ?_
                          · obtain ⟨x17, hx17, hg17⟩ := bindS hg17
                            refine CallOk.norm (L := [(7, (.s (List.map c_api_Lease x6.1))), (120, .v (.bool true)), (121, (.s (List.map c_api_Lease x6.1))), (122, (.a [(vi (8)), (vi (9))]))]) (H' := []) (LeL.refl _) ⟨Le.refl _, Le.refl _, Le.refl _, Le.refl _, True.intro⟩ True.intro rfl (CallOk.call (w_lease_Has hx17) (LeL.refl _) ?_)
                            cases hg17
                            obtain ⟨c15, hg18, hv2⟩ := bindS hv2
                            refine Br.ite hg18 (fun hb hg18 => ?_) fun hb hg18 => ?_
                            · obtain ⟨x18, hx18, hg18⟩ := bindS hg18
                              refine CallOk.norm (L := [(7, (.s (List.map c_api_Lease x6.1))), (126, .v (.bool true)), (127, (.s (List.map c_api_Lease x6.1))), (128, (.a [(vi (2)), (vi (9))]))]) (H' := []) (LeL.refl _) ⟨Le.refl _, Le.refl _, Le.refl _, Le.refl _, True.intro⟩ True.intro rfl (CallOk.call (w_lease_Has hx18) (LeL.refl _) ?_)
                              cases hg18
                              obtain ⟨c16, hg19, hv2⟩ := bindS hv2
                              refine Br.ite hg19 (fun hb hg19 => ?_) fun hb hg19 => ?_
                              · obtain ⟨x19, hx19, hg19⟩ := bindS hg19
                                refine CallOk.norm (L := [(7, (.s (List.map c_api_Lease x6.1))), (132, .v (.bool true)), (133, (.s (List.map c_api_Lease x6.1)))]) (H' := []) (LeL.refl _) ⟨Le.refl _, Le.refl _, Le.refl _, True.intro⟩ True.intro rfl (CallOk.call (w_lease_Back hx19) (LeL.refl _) ?_)
                                refine ⟨_, List.length_map _, fun _ => ?_⟩
                                cases hg19
                                obtain ⟨c17, hg20, hv2⟩ := bindS hv2
                                refine Br.ite hg20 (fun hb hg20 => ?_) fun hb hg20 => ?_
                                · obtain ⟨x20, hx20, hg20⟩ := bindS hg20
                                  refine CallOk.norm (L := [(7, (.s (List.map c_api_Lease x6.1))), (138, .v (.bool true)), (139, (.s (List.map c_api_Lease x6.1)))]) (H' := []) (LeL.refl _) ⟨Le.refl _, Le.refl _, Le.refl _, True.intro⟩ True.intro rfl (CallOk.call (w_lease_Over hx20) (LeL.refl _) ?_)
                                  refine ⟨_, List.length_map _, fun _ => ?_⟩
                                  cases hg20
                                  obtain ⟨c18, hg21, hv2⟩ := bindS hv2
                                  refine Br.ite hg21 (fun hb hg21 => ?_) fun hb hg21 => ?_
                                  · obtain ⟨x21, hx21, hg21⟩ := bindS hg21
                                    refine CallOk.norm (L := [(7, (.s (List.map c_api_Lease x6.1))), (144, .v (.bool true)), (145, (.s (List.map c_api_Lease x6.1)))]) (H' := []) (LeL.refl _) ⟨Le.refl _, Le.refl _, Le.refl _, True.intro⟩ True.intro rfl (CallOk.call (w_lease_Right hx21) (LeL.refl _) ?_)
                                    cases hg21
                                    obtain ⟨c19, hg22, hv2⟩ := bindS hv2
                                    refine Br.ite hg22 (fun hb hg22 => ?_) fun hb hg22 => ?_
                                    · obtain ⟨hc1, hg22⟩ := chk_some hg22
                                      obtain ⟨x22, hx22, hg22⟩ := bindS hg22
                                      refine Or.inr ⟨rowsLen_map (f := c_api_Lease) (n := 7) (fun _ => rfl) x6.1, app_b2 (f := c_api_Lease) (l := (([] : List api_Lease))) (l' := x6.1) hc1, _, (List.map_append (f := c_api_Lease) (l₁ := (([] : List api_Lease))) (l₂ := x6.1)).symm, ?_⟩
                                      refine CallOk.norm (L := [(148, .v (.bool true)), (151, (.o 149))]) (H' := [(149, .own 26 7 (List.map c_api_Lease ((([] : List api_Lease) ++ x6.1))))]) (LeL.refl _) ⟨Le.refl _, Le.refl _, True.intro⟩ ⟨⟨_, rfl, .refl _⟩, True.intro⟩ rfl (CallOk.call (w_law22_ask hx22) (LeL.refl _) ?_)
                                      obtain ⟨hc2, hg22⟩ := chk_some hg22
                                      obtain ⟨x23, hx23, hg22⟩ := bindS hg22
                                      refine Or.inl ⟨rowsLen_map (f := c_api_Lease) (n := 7) (fun _ => rfl) ([x22]), app_b2 (f := c_api_Lease) (l := ((([] : List api_Lease) ++ x6.1))) (l' := ([x22])) hc2, _, (List.map_append (f := c_api_Lease) (l₁ := ((([] : List api_Lease) ++ x6.1))) (l₂ := ([x22]))).symm, ?_⟩
                                      refine CallOk.norm (L := [(148, .v (.bool true)), (154, (.o 149))]) (H' := [(149, .own 26 7 (List.map c_api_Lease (((([] : List api_Lease) ++ x6.1) ++ [x22]))))]) (LeL.refl _) ⟨Le.refl _, Le.refl _, True.intro⟩ ⟨⟨_, rfl, .refl _⟩, True.intro⟩ rfl (CallOk.borrow (w_lease_Right hx23) (.cons (Fz.o rfl) (.nil)) rfl ?_)
                                      cases hg22
                                      cases hv2
                                      exact Wk.tab ⟨Le.refl _, True.intro⟩ True.intro rfl
                                    · cases hg22
                                      cases hv2
                                      exact Wk.tab ⟨Le.refl _, True.intro⟩ True.intro rfl
                                  · cases hg21
                                    obtain ⟨c19, hg23, hv2⟩ := bindS hv2
                                    replace hg23 := iteF hg23
                                    cases hg23
                                    cases hv2
                                    exact Wk.tab ⟨Le.refl _, True.intro⟩ True.intro rfl
                                · cases hg20
                                  obtain ⟨c18, hg24, hv2⟩ := bindS hv2
                                  replace hg24 := iteF hg24
                                  cases hg24
                                  obtain ⟨c19, hg25, hv2⟩ := bindS hv2
                                  replace hg25 := iteF hg25
                                  cases hg25
                                  cases hv2
                                  exact Wk.tab ⟨Le.refl _, True.intro⟩ True.intro rfl
                              · cases hg19
                                obtain ⟨c17, hg26, hv2⟩ := bindS hv2
                                replace hg26 := iteF hg26
                                cases hg26
                                obtain ⟨c18, hg27, hv2⟩ := bindS hv2
                                replace hg27 := iteF hg27
                                cases hg27
                                obtain ⟨c19, hg28, hv2⟩ := bindS hv2
                                replace hg28 := iteF hg28
                                cases hg28
                                cases hv2
                                exact Wk.tab ⟨Le.refl _, True.intro⟩ True.intro rfl
                            · cases hg18
                              obtain ⟨c16, hg29, hv2⟩ := bindS hv2
                              replace hg29 := iteF hg29
                              cases hg29
                              obtain ⟨c17, hg30, hv2⟩ := bindS hv2
                              replace hg30 := iteF hg30
                              cases hg30
                              obtain ⟨c18, hg31, hv2⟩ := bindS hv2
                              replace hg31 := iteF hg31
                              cases hg31
                              obtain ⟨c19, hg32, hv2⟩ := bindS hv2
                              replace hg32 := iteF hg32
                              cases hg32
                              cases hv2
                              exact Wk.tab ⟨Le.refl _, True.intro⟩ True.intro rfl
                          · cases hg17
                            obtain ⟨c15, hg33, hv2⟩ := bindS hv2
                            replace hg33 := iteF hg33
                            cases hg33
                            obtain ⟨c16, hg34, hv2⟩ := bindS hv2
                            replace hg34 := iteF hg34
                            cases hg34
                            obtain ⟨c17, hg35, hv2⟩ := bindS hv2
                            replace hg35 := iteF hg35
                            cases hg35
                            obtain ⟨c18, hg36, hv2⟩ := bindS hv2
                            replace hg36 := iteF hg36
                            cases hg36
                            obtain ⟨c19, hg37, hv2⟩ := bindS hv2
                            replace hg37 := iteF hg37
                            cases hg37
                            cases hv2
                            exact Wk.tab ⟨Le.refl _, True.intro⟩ True.intro rfl
                        · cases hg16
                          obtain ⟨c14, hg38, hv2⟩ := bindS hv2
                          replace hg38 := iteF hg38
                          cases hg38
                          obtain ⟨c15, hg39, hv2⟩ := bindS hv2
                          replace hg39 := iteF hg39
                          cases hg39
                          obtain ⟨c16, hg40, hv2⟩ := bindS hv2
                          replace hg40 := iteF hg40
                          cases hg40
                          obtain ⟨c17, hg41, hv2⟩ := bindS hv2
                          replace hg41 := iteF hg41
                          cases hg41
                          obtain ⟨c18, hg42, hv2⟩ := bindS hv2
                          replace hg42 := iteF hg42
                          cases hg42
                          obtain ⟨c19, hg43, hv2⟩ := bindS hv2
                          replace hg43 := iteF hg43
                          cases hg43
                          cases hv2
                          exact Wk.tab ⟨Le.refl _, True.intro⟩ True.intro rfl
                      · cases hg15
                        obtain ⟨c13, hg44, hv2⟩ := bindS hv2
                        replace hg44 := iteF hg44
                        cases hg44
                        obtain ⟨c14, hg45, hv2⟩ := bindS hv2
                        replace hg45 := iteF hg45
                        cases hg45
                        obtain ⟨c15, hg46, hv2⟩ := bindS hv2
                        replace hg46 := iteF hg46
                        cases hg46
                        obtain ⟨c16, hg47, hv2⟩ := bindS hv2
                        replace hg47 := iteF hg47
                        cases hg47
                        obtain ⟨c17, hg48, hv2⟩ := bindS hv2
                        replace hg48 := iteF hg48
                        cases hg48
                        obtain ⟨c18, hg49, hv2⟩ := bindS hv2
                        replace hg49 := iteF hg49
                        cases hg49
                        obtain ⟨c19, hg50, hv2⟩ := bindS hv2
                        replace hg50 := iteF hg50
                        cases hg50
                        cases hv2
                        exact Wk.tab ⟨Le.refl _, True.intro⟩ True.intro rfl
                    · cases hg14
                      obtain ⟨c12, hg51, hv2⟩ := bindS hv2
                      replace hg51 := iteF hg51
                      cases hg51
                      obtain ⟨c13, hg52, hv2⟩ := bindS hv2
                      replace hg52 := iteF hg52
                      cases hg52
                      obtain ⟨c14, hg53, hv2⟩ := bindS hv2
                      replace hg53 := iteF hg53
                      cases hg53
                      obtain ⟨c15, hg54, hv2⟩ := bindS hv2
                      replace hg54 := iteF hg54
                      cases hg54
                      obtain ⟨c16, hg55, hv2⟩ := bindS hv2
                      replace hg55 := iteF hg55
                      cases hg55
                      obtain ⟨c17, hg56, hv2⟩ := bindS hv2
                      replace hg56 := iteF hg56
                      cases hg56
                      obtain ⟨c18, hg57, hv2⟩ := bindS hv2
                      replace hg57 := iteF hg57
                      cases hg57
                      obtain ⟨c19, hg58, hv2⟩ := bindS hv2
                      replace hg58 := iteF hg58
                      cases hg58
                      cases hv2
                      exact Wk.tab ⟨Le.refl _, True.intro⟩ True.intro rfl
                  · cases hg13
                    obtain ⟨c11, hg59, hv2⟩ := bindS hv2
                    replace hg59 := iteF hg59
                    cases hg59
                    obtain ⟨c12, hg60, hv2⟩ := bindS hv2
                    replace hg60 := iteF hg60
                    cases hg60
                    obtain ⟨c13, hg61, hv2⟩ := bindS hv2
                    replace hg61 := iteF hg61
                    cases hg61
                    obtain ⟨c14, hg62, hv2⟩ := bindS hv2
                    replace hg62 := iteF hg62
                    cases hg62
                    obtain ⟨c15, hg63, hv2⟩ := bindS hv2
                    replace hg63 := iteF hg63
                    cases hg63
                    obtain ⟨c16, hg64, hv2⟩ := bindS hv2
                    replace hg64 := iteF hg64
                    cases hg64
                    obtain ⟨c17, hg65, hv2⟩ := bindS hv2
                    replace hg65 := iteF hg65
                    cases hg65
                    obtain ⟨c18, hg66, hv2⟩ := bindS hv2
                    replace hg66 := iteF hg66
                    cases hg66
                    obtain ⟨c19, hg67, hv2⟩ := bindS hv2
                    replace hg67 := iteF hg67
                    cases hg67
                    cases hv2
                    exact Wk.tab ⟨Le.refl _, True.intro⟩ True.intro rfl
                · cases hg12
                  obtain ⟨c10, hg68, hv2⟩ := bindS hv2
                  replace hg68 := iteF hg68
                  cases hg68
                  obtain ⟨c11, hg69, hv2⟩ := bindS hv2
                  replace hg69 := iteF hg69
                  cases hg69
                  obtain ⟨c12, hg70, hv2⟩ := bindS hv2
                  replace hg70 := iteF hg70
                  cases hg70
                  obtain ⟨c13, hg71, hv2⟩ := bindS hv2
                  replace hg71 := iteF hg71
                  cases hg71
                  obtain ⟨c14, hg72, hv2⟩ := bindS hv2
                  replace hg72 := iteF hg72
                  cases hg72
                  obtain ⟨c15, hg73, hv2⟩ := bindS hv2
                  replace hg73 := iteF hg73
                  cases hg73
                  obtain ⟨c16, hg74, hv2⟩ := bindS hv2
                  replace hg74 := iteF hg74
                  cases hg74
                  obtain ⟨c17, hg75, hv2⟩ := bindS hv2
                  replace hg75 := iteF hg75
                  cases hg75
                  obtain ⟨c18, hg76, hv2⟩ := bindS hv2
                  replace hg76 := iteF hg76
                  cases hg76
                  obtain ⟨c19, hg77, hv2⟩ := bindS hv2
                  replace hg77 := iteF hg77
                  cases hg77
                  cases hv2
                  exact Wk.tab ⟨Le.refl _, True.intro⟩ True.intro rfl
              · cases hg11
                obtain ⟨c9, hg78, hv2⟩ := bindS hv2
                replace hg78 := iteF hg78
                cases hg78
                obtain ⟨c10, hg79, hv2⟩ := bindS hv2
                replace hg79 := iteF hg79
                cases hg79
                obtain ⟨c11, hg80, hv2⟩ := bindS hv2
                replace hg80 := iteF hg80
                cases hg80
                obtain ⟨c12, hg81, hv2⟩ := bindS hv2
                replace hg81 := iteF hg81
                cases hg81
                obtain ⟨c13, hg82, hv2⟩ := bindS hv2
                replace hg82 := iteF hg82
                cases hg82
                obtain ⟨c14, hg83, hv2⟩ := bindS hv2
                replace hg83 := iteF hg83
                cases hg83
                obtain ⟨c15, hg84, hv2⟩ := bindS hv2
                replace hg84 := iteF hg84
                cases hg84
                obtain ⟨c16, hg85, hv2⟩ := bindS hv2
                replace hg85 := iteF hg85
                cases hg85
                obtain ⟨c17, hg86, hv2⟩ := bindS hv2
                replace hg86 := iteF hg86
                cases hg86
                obtain ⟨c18, hg87, hv2⟩ := bindS hv2
                replace hg87 := iteF hg87
                cases hg87
                obtain ⟨c19, hg88, hv2⟩ := bindS hv2
                replace hg88 := iteF hg88
                cases hg88
                cases hv2
                exact Wk.tab ⟨Le.refl _, True.intro⟩ True.intro rfl
            · cases hg10
              obtain ⟨c8, hg89, hv2⟩ := bindS hv2
              replace hg89 := iteF hg89
              cases hg89
              obtain ⟨c9, hg90, hv2⟩ := bindS hv2
              replace hg90 := iteF hg90
              cases hg90
              obtain ⟨c10, hg91, hv2⟩ := bindS hv2
              replace hg91 := iteF hg91
              cases hg91
              obtain ⟨c11, hg92, hv2⟩ := bindS hv2
              replace hg92 := iteF hg92
              cases hg92
              obtain ⟨c12, hg93, hv2⟩ := bindS hv2
              replace hg93 := iteF hg93
              cases hg93
              obtain ⟨c13, hg94, hv2⟩ := bindS hv2
              replace hg94 := iteF hg94
              cases hg94
              obtain ⟨c14, hg95, hv2⟩ := bindS hv2
              replace hg95 := iteF hg95
              cases hg95
              obtain ⟨c15, hg96, hv2⟩ := bindS hv2
              replace hg96 := iteF hg96
              cases hg96
              obtain ⟨c16, hg97, hv2⟩ := bindS hv2
              replace hg97 := iteF hg97
              cases hg97
              obtain ⟨c17, hg98, hv2⟩ := bindS hv2
              replace hg98 := iteF hg98
              cases hg98
              obtain ⟨c18, hg99, hv2⟩ := bindS hv2
              replace hg99 := iteF hg99
              cases hg99
              obtain ⟨c19, hg100, hv2⟩ := bindS hv2
              replace hg100 := iteF hg100
              cases hg100
              cases hv2
              exact Wk.tab ⟨Le.refl _, True.intro⟩ True.intro rfl
          · cases hg9
            obtain ⟨c7, hg101, hv2⟩ := bindS hv2
            replace hg101 := iteF hg101
            cases hg101
            obtain ⟨c8, hg102, hv2⟩ := bindS hv2
            replace hg102 := iteF hg102
            cases hg102
            obtain ⟨c9, hg103, hv2⟩ := bindS hv2
            replace hg103 := iteF hg103
            cases hg103
            obtain ⟨c10, hg104, hv2⟩ := bindS hv2
            replace hg104 := iteF hg104
            cases hg104
            obtain ⟨c11, hg105, hv2⟩ := bindS hv2
            replace hg105 := iteF hg105
            cases hg105
            obtain ⟨c12, hg106, hv2⟩ := bindS hv2
            replace hg106 := iteF hg106
            cases hg106
            obtain ⟨c13, hg107, hv2⟩ := bindS hv2
            replace hg107 := iteF hg107
            cases hg107
            obtain ⟨c14, hg108, hv2⟩ := bindS hv2
            replace hg108 := iteF hg108
            cases hg108
            obtain ⟨c15, hg109, hv2⟩ := bindS hv2
            replace hg109 := iteF hg109
            cases hg109
            obtain ⟨c16, hg110, hv2⟩ := bindS hv2
            replace hg110 := iteF hg110
            cases hg110
            obtain ⟨c17, hg111, hv2⟩ := bindS hv2
            replace hg111 := iteF hg111
            cases hg111
            obtain ⟨c18, hg112, hv2⟩ := bindS hv2
            replace hg112 := iteF hg112
            cases hg112
            obtain ⟨c19, hg113, hv2⟩ := bindS hv2
            replace hg113 := iteF hg113
            cases hg113
            cases hv2
            exact Wk.tab ⟨Le.refl _, True.intro⟩ True.intro rfl
        · cases hg8
          obtain ⟨c6, hg114, hv2⟩ := bindS hv2
          replace hg114 := iteF hg114
          cases hg114
          obtain ⟨c7, hg115, hv2⟩ := bindS hv2
          replace hg115 := iteF hg115
          cases hg115
          obtain ⟨c8, hg116, hv2⟩ := bindS hv2
          replace hg116 := iteF hg116
          cases hg116
          obtain ⟨c9, hg117, hv2⟩ := bindS hv2
          replace hg117 := iteF hg117
          cases hg117
          obtain ⟨c10, hg118, hv2⟩ := bindS hv2
          replace hg118 := iteF hg118
          cases hg118
          obtain ⟨c11, hg119, hv2⟩ := bindS hv2
          replace hg119 := iteF hg119
          cases hg119
          obtain ⟨c12, hg120, hv2⟩ := bindS hv2
          replace hg120 := iteF hg120
          cases hg120
          obtain ⟨c13, hg121, hv2⟩ := bindS hv2
          replace hg121 := iteF hg121
          cases hg121
          obtain ⟨c14, hg122, hv2⟩ := bindS hv2
          replace hg122 := iteF hg122
          cases hg122
          obtain ⟨c15, hg123, hv2⟩ := bindS hv2
          replace hg123 := iteF hg123
          cases hg123
          obtain ⟨c16, hg124, hv2⟩ := bindS hv2
          replace hg124 := iteF hg124
          cases hg124
          obtain ⟨c17, hg125, hv2⟩ := bindS hv2
          replace hg125 := iteF hg125
          cases hg125
          obtain ⟨c18, hg126, hv2⟩ := bindS hv2
          replace hg126 := iteF hg126
          cases hg126
          obtain ⟨c19, hg127, hv2⟩ := bindS hv2
          replace hg127 := iteF hg127
          cases hg127
          cases hv2
          exact Wk.tab ⟨Le.refl _, True.intro⟩ True.intro rfl
      · cases hg7
        obtain ⟨c5, hg128, hv2⟩ := bindS hv2
        replace hg128 := iteF hg128
        cases hg128
        obtain ⟨c6, hg129, hv2⟩ := bindS hv2
        replace hg129 := iteF hg129
        cases hg129
        obtain ⟨c7, hg130, hv2⟩ := bindS hv2
        replace hg130 := iteF hg130
        cases hg130
        obtain ⟨c8, hg131, hv2⟩ := bindS hv2
        replace hg131 := iteF hg131
        cases hg131
        obtain ⟨c9, hg132, hv2⟩ := bindS hv2
        replace hg132 := iteF hg132
        cases hg132
        obtain ⟨c10, hg133, hv2⟩ := bindS hv2
        replace hg133 := iteF hg133
        cases hg133
        obtain ⟨c11, hg134, hv2⟩ := bindS hv2
        replace hg134 := iteF hg134
        cases hg134
        obtain ⟨c12, hg135, hv2⟩ := bindS hv2
        replace hg135 := iteF hg135
        cases hg135
        obtain ⟨c13, hg136, hv2⟩ := bindS hv2
        replace hg136 := iteF hg136
        cases hg136
        obtain ⟨c14, hg137, hv2⟩ := bindS hv2
        replace hg137 := iteF hg137
        cases hg137
        obtain ⟨c15, hg138, hv2⟩ := bindS hv2
        replace hg138 := iteF hg138
        cases hg138
        obtain ⟨c16, hg139, hv2⟩ := bindS hv2
        replace hg139 := iteF hg139
        cases hg139
        obtain ⟨c17, hg140, hv2⟩ := bindS hv2
        replace hg140 := iteF hg140
        cases hg140
        obtain ⟨c18, hg141, hv2⟩ := bindS hv2
        replace hg141 := iteF hg141
        cases hg141
        obtain ⟨c19, hg142, hv2⟩ := bindS hv2
        replace hg142 := iteF hg142
        cases hg142
        cases hv2
        exact Wk.tab ⟨Le.refl _, True.intro⟩ True.intro rfl
    refine Ok.ret ?_
    cases h
    exact Fz.v

theorem w_law22_table [Off] {p_l : List law22_Step} {r : (List api_Lease) × Int × Bool} (h : law22_table p_l = some r) : Pure Try.prog 23 [(.s (List.map c_law22_Step p_l))] (.t [(.s (List.map c_api_Lease r.1)), (vi r.2.1), (vb r.2.2)]) := by
  refine pure_of_ok (n := 73) (c := (Try.f23.body.getD .skip)) Try.tok Try.func23 (by kernel_rfl) rfl rfl (Nat.le_of_ble_eq_true rfl) ?_
  unfold law22_table at h
  refine Ok.wk (Wk.tab (L := [(0, (.s (List.map c_law22_Step p_l)))]) (H' := []) ⟨Le.refl _, True.intro⟩ True.intro rfl) ?_
  refine Ok.seq ?_
  refine Ok.region Try.tok ?_
  refine Ok.wk (Wk.tab (L := [(0, (.s (List.map c_law22_Step p_l)))]) (H' := []) ⟨Le.refl _, True.intro⟩ True.intro rfl) ?_
  refine Ok.seq ?_
  refine Ok.region Try.tok ?_
  refine Or.inl ?_
  refine Ok.wk (Wk.tab (L := [(0, (.s (List.map c_law22_Step p_l))), (5, (.s (List.map c_api_Lease (([] : List api_Lease)))))]) (H' := []) ⟨Le.refl _, Le.refl _, True.intro⟩ True.intro rfl) ?_
  refine Ok.seq ?_
  refine Ok.region Try.tok ?_
  refine Ok.wk (Wk.tab (L := [(0, (.s (List.map c_law22_Step p_l))), (5, (.s (List.map c_api_Lease (([] : List api_Lease))))), (6, (vi (0)))]) (H' := []) ⟨Le.refl _, Le.refl _, Le.refl _, True.intro⟩ True.intro rfl) ?_
  refine Ok.seq ?_
  refine Ok.seq ?_
  refine Ok.region Try.tok ?_
  refine ⟨_, List.length_map _, fun _ => ?_⟩
  refine Ok.wk (Wk.tab (L := [(0, (.s (List.map c_law22_Step p_l))), (5, (.s (List.map c_api_Lease (([] : List api_Lease))))), (6, (vi (0))), (15, (vb ((decide ((p_l.length : Int) > 40)))))]) (H' := []) ⟨Le.refl _, Le.refl _, Le.refl _, Le.refl _, True.intro⟩ True.intro rfl) ?_
  refine Ok.cond (d := 15) (b := (decide ((p_l.length : Int) > 40))) rfl h (fun hb h => ?_) fun hb h => ?_
  · refine Ok.seq ?_
    refine Ok.region Try.tok ?_
    refine Ok.wk (Wk.tab (L := [(2, (.s (List.map c_api_Lease (([] : List api_Lease))))), (3, (vi (0))), (4, (vb false))]) (H' := []) ⟨Le.refl _, Le.refl _, Le.refl _, True.intro⟩ True.intro rfl) ?_
    refine Ok.ret ?_
    cases h
    exact (Fz.t (.cons Fz.s (.cons Fz.v (.cons Fz.v .nil))))
  · refine Ok.skip ?_
    obtain ⟨v1, hv1, h⟩ := bindS h
    refine Ok.seqw ⟨Cat.tab [(5, (.s (List.map c_api_Lease v1.1))), (6, (vi v1.2))], []⟩ ?_ ?_
    · refine Ok.seq ?_
      refine Ok.region Try.tok ?_
      refine Ok.wk (Wk.tab (L := [(0, (.s (List.map c_law22_Step p_l))), (5, (.s (List.map c_api_Lease (([] : List api_Lease))))), (6, (vi (0))), (7, (vi (0)))]) (H' := []) ⟨Le.refl _, Le.refl _, Le.refl _, Le.refl _, True.intro⟩ True.intro rfl) ?_
      refine Ok.block ?_
      refine Ok.loop (fun (s1 : (List api_Lease) × Int × Int) => ⟨Cat.tab [(0, (.s (List.map c_law22_Step p_l))), (5, (.s (List.map c_api_Lease s1.1))), (6, (vi s1.2.1)), (7, (vi s1.2.2))], []⟩) (law22_table_B1 p_l) (s0 := (([] : List api_Lease), 0, 0)) hv1 (Wk.tab ⟨Le.refl _, Le.refl _, Le.refl _, Le.refl _, True.intro⟩ True.intro rfl) ?_
      intro s1 y1 hB1 hy1
      unfold law22_table_B1 at hB1
      refine Ok.seq ?_
      refine Ok.seq ?_
      refine Ok.region Try.tok ?_
      refine ⟨_, List.length_map _, fun _ => ?_⟩
      refine Ok.wk (Wk.tab (L := [(0, (.s (List.map c_law22_Step p_l))), (5, (.s (List.map c_api_Lease s1.1))), (6, (vi s1.2.1)), (7, (vi s1.2.2)), (21, (vb ((decide (s1.2.2 < (p_l.length : Int))))))]) (H' := []) ⟨Le.refl _, Le.refl _, Le.refl _, Le.refl _, Le.refl _, True.intro⟩ True.intro rfl) ?_
      refine Ok.cond (d := 21) (b := (decide (s1.2.2 < (p_l.length : Int)))) rfl hB1 (fun hb hB1 => ?_) fun hb hB1 => ?_
      · refine Ok.skip ?_
        obtain ⟨v2, hv2, hB1⟩ := bindS hB1
        refine Ok.seqw ⟨Cat.tab [(0, (.s (List.map c_law22_Step p_l))), (5, (.s (List.map c_api_Lease v2.1))), (6, (vi v2.2)), (7, (vi s1.2.2))], []⟩ ?_ ?_
        · refine Ok.block ?_
          refine Ok.seq ?_
          refine Ok.region Try.tok ?_
          obtain ⟨x1, hx1, hv2⟩ := bindS hv2
          refine ⟨_, idx_nat hx1, _, idx_row hx1, ⟨_, rfl, ⟨_, rfl, ?_⟩⟩⟩
          refine Ok.wk (Wk.tab (L := [(0, (.s (List.map c_law22_Step p_l))), (5, (.s (List.map c_api_Lease s1.1))), (6, (vi s1.2.1)), (7, (vi s1.2.2)), (8, (.b 8 0))]) (H' := [(8, .box [(vi x1.Do), (vi x1.Many), (vi x1.Q.Client), (vi x1.Q.Ino), (vi x1.Q.Kind), (vi x1.Q.Span.From), (vi x1.Q.Span.To), (vi x1.Q.Until), (vi x1.Q.Epoch)])]) ⟨Le.refl _, Le.refl _, Le.refl _, Le.refl _, Le.refl _, True.intro⟩ ⟨⟨_, rfl, .refl _⟩, True.intro⟩ rfl) ?_
          refine Ok.seq ?_
          refine Ok.region Try.tok ?_
          refine ⟨_, rfl, ?_⟩
          refine Ok.wk (Wk.tab (L := [(0, (.s (List.map c_law22_Step p_l))), (5, (.s (List.map c_api_Lease s1.1))), (6, (vi s1.2.1)), (7, (vi s1.2.2)), (8, (.b 8 0)), (29, (vi x1.Do))]) (H' := [(8, .box [(vi x1.Do), (vi x1.Many), (vi x1.Q.Client), (vi x1.Q.Ino), (vi x1.Q.Kind), (vi x1.Q.Span.From), (vi x1.Q.Span.To), (vi x1.Q.Until), (vi x1.Q.Epoch)])]) ⟨Le.refl _, Le.refl _, Le.refl _, Le.refl _, Le.refl _, Le.refl _, True.intro⟩ ⟨⟨_, rfl, .refl _⟩, True.intro⟩ rfl) ?_
          refine Ok.block ?_
          refine Ok.seq ?_
          refine Ok.region Try.tok ?_
          refine Ok.wk (Wk.tab (L := [(0, (.s (List.map c_law22_Step p_l))), (5, (.s (List.map c_api_Lease s1.1))), (6, (vi s1.2.1)), (7, (vi s1.2.2)), (8, (.b 8 0)), (29, (vi x1.Do)), (33, (vb ((x1.Do == 0))))]) (H' := [(8, .box [(vi x1.Do), (vi x1.Many), (vi x1.Q.Client), (vi x1.Q.Ino), (vi x1.Q.Kind), (vi x1.Q.Span.From), (vi x1.Q.Span.To), (vi x1.Q.Until), (vi x1.Q.Epoch)])]) ⟨Le.refl _, Le.refl _, Le.refl _, Le.refl _, Le.refl _, Le.refl _, Le.refl _, True.intro⟩ ⟨⟨_, rfl, .refl _⟩, True.intro⟩ rfl) ?_
          refine Ok.cond (d := 33) (b := (x1.Do == 0)) rfl hv2 (fun hb hv2 => ?_) fun hb hv2 => ?_
          · refine Ok.seq ?_
            refine Ok.region Try.tok ?_
            obtain ⟨x2, hx2, hv2⟩ := bindS hv2
            refine ⟨_, rfl, ⟨_, rfl, ?_⟩⟩
            refine CallOk.call (w_lease_Ask hx2) (LeL.refl _) ?_
            refine Ok.wk (Wk.tab (L := [(0, (.s (List.map c_law22_Step p_l))), (6, (vi s1.2.1)), (7, (vi s1.2.2)), (9, (.s (List.map c_api_Lease x2.1)))]) (H' := []) ⟨Le.refl _, Le.refl _, Le.refl _, Le.refl _, True.intro⟩ True.intro rfl) ?_
            refine Ok.region Try.tok ?_
            cases hv2
            exact Wk.tab ⟨Le.refl _, Le.refl _, Le.refl _, Le.refl _, True.intro⟩ True.intro rfl
          · refine Ok.seq ?_
            refine Ok.region Try.tok ?_
            refine Ok.wk (Wk.tab (L := [(0, (.s (List.map c_law22_Step p_l))), (5, (.s (List.map c_api_Lease s1.1))), (6, (vi s1.2.1)), (7, (vi s1.2.2)), (8, (.b 8 0)), (29, (vi x1.Do)), (47, (vb ((x1.Do == 1))))]) (H' := [(8, .box [(vi x1.Do), (vi x1.Many), (vi x1.Q.Client), (vi x1.Q.Ino), (vi x1.Q.Kind), (vi x1.Q.Span.From), (vi x1.Q.Span.To), (vi x1.Q.Until), (vi x1.Q.Epoch)])]) ⟨Le.refl _, Le.refl _, Le.refl _, Le.refl _, Le.refl _, Le.refl _, Le.refl _, True.intro⟩ ⟨⟨_, rfl, .refl _⟩, True.intro⟩ rfl) ?_
            refine Ok.cond (d := 47) (b := (x1.Do == 1)) rfl hv2 (fun hb hv2 => ?_) fun hb hv2 => ?_
            · refine Ok.region Try.tok ?_
              obtain ⟨x3, hx3, hv2⟩ := bindS hv2
              refine ⟨_, rfl, ⟨_, rfl, ?_⟩⟩
              refine CallOk.call (w_lease_Back hx3) (LeL.refl _) ?_
              cases hv2
              exact Wk.tab ⟨Le.refl _, Le.refl _, Le.refl _, Le.refl _, True.intro⟩ True.intro rfl
            · refine Ok.seq ?_
              refine Ok.region Try.tok ?_
              refine Ok.wk (Wk.tab (L := [(0, (.s (List.map c_law22_Step p_l))), (5, (.s (List.map c_api_Lease s1.1))), (6, (vi s1.2.1)), (7, (vi s1.2.2)), (8, (.b 8 0)), (57, (vb ((x1.Do == 2))))]) (H' := [(8, .box [(vi x1.Do), (vi x1.Many), (vi x1.Q.Client), (vi x1.Q.Ino), (vi x1.Q.Kind), (vi x1.Q.Span.From), (vi x1.Q.Span.To), (vi x1.Q.Until), (vi x1.Q.Epoch)])]) ⟨Le.refl _, Le.refl _, Le.refl _, Le.refl _, Le.refl _, Le.refl _, True.intro⟩ ⟨⟨_, rfl, .refl _⟩, True.intro⟩ rfl) ?_
              refine Ok.cond (d := 57) (b := (x1.Do == 2)) rfl hv2 (fun hb hv2 => ?_) fun hb hv2 => ?_
              · obtain ⟨v3, hv3, hv2⟩ := bindS hv2
                refine Ok.seqw ⟨Cat.tab [(0, (.s (List.map c_law22_Step p_l))), (5, (.s (List.map c_api_Lease s1.1))), (6, (vi s1.2.1)), (7, (vi s1.2.2)), (8, (.b 8 0)), (66, (vb v3))], [(8, .box [(vi x1.Do), (vi x1.Many), (vi x1.Q.Client), (vi x1.Q.Ino), (vi x1.Q.Kind), (vi x1.Q.Span.From), (vi x1.Q.Span.To), (vi x1.Q.Until), (vi x1.Q.Epoch)])]⟩ ?_ ?_
                · refine Ok.region Try.tok ?_
                  refine ⟨_, rfl, ?_⟩
                  obtain ⟨c1, hg1, hv3⟩ := bindS hv3
                  refine Br.ite hg1 (fun hb hg1 => ?_) fun hb hg1 => ?_
                  · refine ⟨_, rfl, ?_⟩
                    cases hg1
                    cases hv3
                    exact Wk.tab ⟨Le.refl _, Le.refl _, Le.refl _, Le.refl _, Le.refl _, Le.refl _, True.intro⟩ ⟨⟨_, rfl, .refl _⟩, True.intro⟩ rfl
                  · cases hg1
                    cases hv3
                    exact Wk.tab ⟨Le.refl _, Le.refl _, Le.refl _, Le.refl _, Le.refl _, Le.refl _, True.intro⟩ ⟨⟨_, rfl, .refl _⟩, True.intro⟩ rfl
                refine Ok.cond (d := 66) (b := v3) rfl hv2 (fun hb hv2 => ?_) fun hb hv2 => ?_
                · refine Ok.region Try.tok ?_
                  obtain ⟨hc1, hv2⟩ := chk_some hv2
                  refine ⟨_, rfl, (Or.inl ⟨hc1, ?_⟩)⟩
                  cases hv2
                  exact Wk.tab ⟨Le.refl _, Le.refl _, Le.refl _, Le.refl _, True.intro⟩ True.intro rfl
                · refine Ok.skip ?_
                  cases hv2
                  exact Wk.tab ⟨Le.refl _, Le.refl _, Le.refl _, Le.refl _, True.intro⟩ True.intro rfl
              · refine Ok.region Try.tok ?_
                obtain ⟨x4, hx4, hv2⟩ := bindS hv2
                refine CallOk.call (w_lease_Over hx4) (LeL.refl _) ?_
                cases hv2
                exact Wk.tab ⟨Le.refl _, Le.refl _, Le.refl _, Le.refl _, True.intro⟩ True.intro rfl
        refine Ok.region Try.tok ?_
        obtain ⟨hc2, hB1⟩ := chk_some hB1
        refine (Or.inl ⟨hc2, ?_⟩)
        exact ⟨_, (Option.some.inj hB1).symm, Wk.tab ⟨Le.refl _, Le.refl _, Le.refl _, Le.refl _, True.intro⟩ True.intro rfl⟩
      · refine Ok.exit ?_
        have hB1 := out_ret hB1 hy1
        cases hB1
        exact Wk.tab ⟨Le.refl _, Le.refl _, True.intro⟩ True.intro rfl
    refine Ok.seq ?_
    refine Ok.region Try.tok ?_
    refine Ok.wk (Wk.tab (L := [(2, (.s (List.map c_api_Lease v1.1))), (3, (vi v1.2)), (4, (vb true))]) (H' := []) ⟨Le.refl _, Le.refl _, Le.refl _, True.intro⟩ True.intro rfl) ?_
    refine Ok.ret ?_
    cases h
    exact (Fz.t (.cons Fz.s (.cons Fz.v (.cons Fz.v .nil))))

theorem w_law22_LeaseHas [Off] {p_l : List law22_Step} {p_q : api_Lease} {p_long : Int} {p_cut : List Int} {r : Bool} (h : law22_LeaseHas p_l p_q p_long p_cut = some r) : Pure Try.prog 7 [(.s (List.map c_law22_Step p_l)), (.a [(vi p_q.Client), (vi p_q.Ino), (vi p_q.Kind), (vi p_q.Span.From), (vi p_q.Span.To), (vi p_q.Until), (vi p_q.Epoch)]), (vi p_long), (.a (List.map a_u16 p_cut))] (vb r) := by
  refine pure_of_ok (n := 143) (c := (Try.f7.body.getD .skip)) Try.tok Try.func7 (by kernel_rfl) rfl rfl (Nat.le_of_ble_eq_true rfl) ?_
  unfold law22_LeaseHas at h
  refine Ok.wk (Wk.tab (L := [(0, (.s (List.map c_law22_Step p_l))), (1, (.a [(vi p_q.Client), (vi p_q.Ino), (vi p_q.Kind), (vi p_q.Span.From), (vi p_q.Span.To), (vi p_q.Until), (vi p_q.Epoch)])), (2, (vi p_long)), (3, (.a (List.map a_u16 p_cut)))]) (H' := []) ⟨Le.refl _, Le.refl _, Le.refl _, Le.refl _, True.intro⟩ True.intro rfl) ?_
  refine Ok.seq ?_
  refine Ok.region Try.tok ?_
  refine Ok.wk (Wk.tab (L := [(0, (.s (List.map c_law22_Step p_l))), (2, (vi p_long)), (5, (.b 5 0)), (7, (.b 7 0))]) (H' := [(5, .box [(vi p_q.Client), (vi p_q.Ino), (vi p_q.Kind), (vi p_q.Span.From), (vi p_q.Span.To), (vi p_q.Until), (vi p_q.Epoch)]), (7, .box (List.map a_u16 p_cut))]) ⟨Le.refl _, Le.refl _, Le.refl _, Le.refl _, True.intro⟩ ⟨⟨_, rfl, .refl _⟩, ⟨_, rfl, .arr2 (fun _ _ => rfl)⟩, True.intro⟩ rfl) ?_
  refine Ok.seq ?_
  refine Ok.region Try.tok ?_
  obtain ⟨x1, hx1, h⟩ := bindS h
  refine CallOk.call (w_law22_head hx1) (LeL.refl _) ?_
  refine Ok.wk (Wk.tab (L := [(0, (.s (List.map c_law22_Step p_l))), (2, (vi p_long)), (5, (.b 5 0)), (7, (.b 7 0)), (9, (vb x1))]) (H' := [(5, .box [(vi p_q.Client), (vi p_q.Ino), (vi p_q.Kind), (vi p_q.Span.From), (vi p_q.Span.To), (vi p_q.Until), (vi p_q.Epoch)]), (7, .box (List.map a_u16 p_cut))]) ⟨Le.refl _, Le.refl _, Le.refl _, Le.refl _, Le.refl _, True.intro⟩ ⟨⟨_, rfl, .refl _⟩, ⟨_, rfl, .refl _⟩, True.intro⟩ rfl) ?_
  refine Ok.seq ?_
  refine Ok.region Try.tok ?_
  obtain ⟨x2, hx2, h⟩ := bindS h
  refine CallOk.call (w_law22_table hx2) (LeL.refl _) ?_
  refine Ok.wk (Wk.tab (L := [(2, (vi p_long)), (5, (.b 5 0)), (7, (.b 7 0)), (9, (vb x1)), (10, (.s (List.map c_api_Lease x2.1))), (11, (vi x2.2.1)), (12, (vb x2.2.2))]) (H' := [(5, .box [(vi p_q.Client), (vi p_q.Ino), (vi p_q.Kind), (vi p_q.Span.From), (vi p_q.Span.To), (vi p_q.Until), (vi p_q.Epoch)]), (7, .box (List.map a_u16 p_cut))]) ⟨Le.refl _, Le.refl _, Le.refl _, Le.refl _, Le.refl _, Le.refl _, Le.refl _, True.intro⟩ ⟨⟨_, rfl, .refl _⟩, ⟨_, rfl, .refl _⟩, True.intro⟩ rfl) ?_
  refine Ok.seq ?_
  refine Ok.region Try.tok ?_
  obtain ⟨x3, hx3, h⟩ := bindS h
  refine ⟨_, rfl, ?_⟩
  refine CallOk.call (w_lease_Ask hx3) (LeL.refl _) ?_
  refine Ok.wk (Wk.tab (L := [(5, (.b 5 0)), (7, (.b 7 0)), (9, (vb x1)), (11, (vi x2.2.1)), (12, (vb x2.2.2)), (13, (.s (List.map c_api_Lease x3.1))), (14, (vb x3.2.1))]) (H' := [(5, .box [(vi p_q.Client), (vi p_q.Ino), (vi p_q.Kind), (vi p_q.Span.From), (vi p_q.Span.To), (vi p_q.Until), (vi p_q.Epoch)]), (7, .box (List.map a_u16 p_cut))]) ⟨Le.refl _, Le.refl _, Le.refl _, Le.refl _, Le.refl _, Le.refl _, Le.refl _, True.intro⟩ ⟨⟨_, rfl, .refl _⟩, ⟨_, rfl, .refl _⟩, True.intro⟩ rfl) ?_
  refine Ok.seq ?_
  obtain ⟨v1, hv1, h⟩ := bindS h
  refine Ok.seqw ⟨Cat.tab [(5, (.b 5 0)), (7, (.b 7 0)), (9, (vb x1)), (11, (vi x2.2.1)), (13, (.s (List.map c_api_Lease x3.1))), (42, (vb v1))], [(5, .box [(vi p_q.Client), (vi p_q.Ino), (vi p_q.Kind), (vi p_q.Span.From), (vi p_q.Span.To), (vi p_q.Until), (vi p_q.Epoch)]), (7, .box (List.map a_u16 p_cut))]⟩ ?_ ?_
  · refine Ok.region Try.tok ?_
    obtain ⟨c1, hg1, hv1⟩ := bindS hv1
    refine Br.itf hg1 (fun hb hg1 => ?_) fun hb hg1 => ?_
    · cases hg1
      cases hv1
      exact Wk.tab ⟨Le.refl _, Le.refl _, Le.refl _, Le.refl _, Le.refl _, Le.refl _, True.intro⟩ ⟨⟨_, rfl, .refl _⟩, ⟨_, rfl, .refl _⟩, True.intro⟩ rfl
    · cases hg1
      cases hv1
      exact Wk.tab ⟨Le.refl _, Le.refl _, Le.refl _, Le.refl _, Le.refl _, Le.refl _, True.intro⟩ ⟨⟨_, rfl, .refl _⟩, ⟨_, rfl, .refl _⟩, True.intro⟩ rfl
  refine Ok.cond (d := 42) (b := v1) rfl h (fun hb h => ?_) fun hb h => ?_
  · refine Ok.seq ?_
    refine Ok.region Try.tok ?_
    refine Ok.wk (Wk.tab (L := [(8, (vb x1))]) (H' := []) ⟨Le.refl _, True.intro⟩ True.intro rfl) ?_
    refine Ok.ret ?_
    cases h
    exact Fz.v
  · refine Ok.skip ?_
    refine Ok.seq ?_
    refine Ok.region Try.tok ?_
    obtain ⟨hc1, h⟩ := chk_some h
    refine ⟨_, rfl, ⟨_, rfl, (Or.inl ⟨hc1, ?_⟩)⟩⟩
    refine Ok.wk (Wk.tab (L := [(5, (.b 5 0)), (7, (.b 7 0)), (9, (vb x1)), (11, (vi x2.2.1)), (13, (.s (List.map c_api_Lease x3.1))), (16, (vi ((p_q.Span.To - p_q.Span.From))))]) (H' := [(5, .box [(vi p_q.Client), (vi p_q.Ino), (vi p_q.Kind), (vi p_q.Span.From), (vi p_q.Span.To), (vi p_q.Until), (vi p_q.Epoch)]), (7, .box (List.map a_u16 p_cut))]) ⟨Le.refl _, Le.refl _, Le.refl _, Le.refl _, Le.refl _, Le.refl _, True.intro⟩ ⟨⟨_, rfl, .refl _⟩, ⟨_, rfl, .refl _⟩, True.intro⟩ rfl) ?_
    refine Ok.seq ?_
    refine Ok.draw (m := 10) (MD := ⟨[]⟩) (CH := ⟨[]⟩) Try.tok Try.mixed (by kernel_rfl) ?_
    obtain ⟨x4, hx4, h⟩ := bindS h
    obtain ⟨hc2, h⟩ := chk_some h
    obtain ⟨hc3, h⟩ := chk_some h
    refine ⟨_, rfl, ⟨_, rfl, ⟨_, ⟨_, rfl, rfl⟩, ⟨_, ⟨_, idx_nat hx4, arr_lt hx4 (by decide), rfl⟩, ⟨_, bif_of (arr_ble hx4) ⟨_, arr_get hx4, rfl⟩, ⟨_, ⟨_, rfl, rfl⟩, ⟨_, rfl, ⟨_, ⟨hc2, _, rfl, rfl⟩, ⟨_, (Or.inl ⟨hc3, rfl⟩), ⟨_, rfl, ⟨True.intro, ?_⟩⟩⟩⟩⟩⟩⟩⟩⟩⟩⟩
    refine Ok.wk (Wk.tab (L := [(5, (.b 5 0)), (7, (.b 7 0)), (9, (vb x1)), (11, (vi x2.2.1)), (13, (.s (List.map c_api_Lease x3.1))), (17, (vi ((p_q.Span.From + (Int.tmod ((IntKind.i64.wrap x4)) ((p_q.Span.To - p_q.Span.From)))))))]) (H' := [(5, .box [(vi p_q.Client), (vi p_q.Ino), (vi p_q.Kind), (vi p_q.Span.From), (vi p_q.Span.To), (vi p_q.Until), (vi p_q.Epoch)]), (7, .box (List.map a_u16 p_cut))]) ⟨Le.refl _, Le.refl _, Le.refl _, Le.refl _, Le.refl _, Le.refl _, True.intro⟩ ⟨⟨_, rfl, .refl _⟩, ⟨_, rfl, .refl _⟩, True.intro⟩ rfl) ?_
    refine Ok.seq ?_
    refine Ok.region Try.tok ?_
    obtain ⟨hc4, h⟩ := chk_some h
    obtain ⟨x5, hx5, h⟩ := bindS h
    obtain ⟨hc5, h⟩ := chk_some h
    obtain ⟨hc6, h⟩ := chk_some h
    obtain ⟨hc7, h⟩ := chk_some h
    refine (Or.inl ⟨hc4, ⟨_, idx_nat hx5, arr_lt hx5 (by decide), bif_of (arr_ble hx5) ⟨_, arr_get hx5, ⟨_, rfl, ⟨_, rfl, (Or.inl ⟨hc5, ⟨hc6, _, rfl, (Or.inl ⟨hc7, ⟨_, rfl, ?_⟩⟩)⟩⟩)⟩⟩⟩⟩⟩)
    refine Ok.wk (Wk.tab (L := [(5, (.b 5 0)), (9, (vb x1)), (11, (vi x2.2.1)), (13, (.s (List.map c_api_Lease x3.1))), (18, (.b 18 0))]) (H' := [(5, .box [(vi p_q.Client), (vi p_q.Ino), (vi p_q.Kind), (vi p_q.Span.From), (vi p_q.Span.To), (vi p_q.Until), (vi p_q.Epoch)]), (18, .box [(vi ((p_q.Span.From + (Int.tmod ((IntKind.i64.wrap x4)) ((p_q.Span.To - p_q.Span.From)))))), (vi ((((p_q.Span.From + (Int.tmod ((IntKind.i64.wrap x4)) ((p_q.Span.To - p_q.Span.From)))) + 1) + (Int.tmod ((IntKind.i64.wrap x5)) ((p_q.Span.To - (p_q.Span.From + (Int.tmod ((IntKind.i64.wrap x4)) ((p_q.Span.To - p_q.Span.From))))))))))])]) ⟨Le.refl _, Le.refl _, Le.refl _, Le.refl _, Le.refl _, True.intro⟩ ⟨⟨_, rfl, .refl _⟩, ⟨_, rfl, .refl _⟩, True.intro⟩ rfl) ?_
    refine Ok.seq ?_
    obtain ⟨v2, hv2, h⟩ := bindS h
    refine Ok.seqw ⟨Cat.tab [(5, (.b 5 0)), (9, (vb x1)), (11, (vi x2.2.1)), (13, (.s (List.map c_api_Lease x3.1))), (18, (.b 18 0)), (106, (vb v2))], [(5, .box [(vi p_q.Client), (vi p_q.Ino), (vi p_q.Kind), (vi p_q.Span.From), (vi p_q.Span.To), (vi p_q.Until), (vi p_q.Epoch)]), (18, .box [(vi ((p_q.Span.From + (Int.tmod ((IntKind.i64.wrap x4)) ((p_q.Span.To - p_q.Span.From)))))), (vi ((((p_q.Span.From + (Int.tmod ((IntKind.i64.wrap x4)) ((p_q.Span.To - p_q.Span.From)))) + 1) + (Int.tmod ((IntKind.i64.wrap x5)) ((p_q.Span.To - (p_q.Span.From + (Int.tmod ((IntKind.i64.wrap x4)) ((p_q.Span.To - p_q.Span.From))))))))))])]⟩ ?_ ?_
    · refine Ok.region Try.tok ?_
      obtain ⟨x6, hx6, hv2⟩ := bindS hv2
      refine ⟨_, rfl, ⟨_, rfl, ⟨_, rfl, ⟨_, rfl, ?_⟩⟩⟩⟩
      refine CallOk.call (w_lease_Has hx6) (LeL.refl _) ?_
      obtain ⟨c2, hg2, hv2⟩ := bindS hv2
      refine Br.itf hg2 (fun hb hg2 => ?_) fun hb hg2 => ?_
      · cases hg2
        obtain ⟨c3, hg3, hv2⟩ := bindS hv2
        replace hg3 := iteT hg3
        cases hg3
        cases hv2
        exact Wk.tab ⟨Le.refl _, Le.refl _, Le.refl _, Le.refl _, Le.refl _, Le.refl _, True.intro⟩ ⟨⟨_, rfl, .refl _⟩, ⟨_, rfl, .refl _⟩, True.intro⟩ rfl
      · obtain ⟨x7, hx7, hg2⟩ := bindS hg2
        refine ⟨_, rfl, ⟨_, rfl, ⟨_, rfl, ⟨_, rfl, ?_⟩⟩⟩⟩
        refine CallOk.call (w_lease_Has hx7) (LeL.refl _) ?_
        cases hg2
        obtain ⟨c3, hg4, hv2⟩ := bindS hv2
        refine Br.itf hg4 (fun hb hg4 => ?_) fun hb hg4 => ?_
        · cases hg4
          cases hv2
          exact Wk.tab ⟨Le.refl _, Le.refl _, Le.refl _, Le.refl _, Le.refl _, Le.refl _, True.intro⟩ ⟨⟨_, rfl, .refl _⟩, ⟨_, rfl, .refl _⟩, True.intro⟩ rfl
        · obtain ⟨x8, hx8, hg4⟩ := bindS hg4
          refine ⟨_, rfl, ⟨_, rfl, ⟨_, rfl, ?_⟩⟩⟩
          refine CallOk.call (w_lease_Has hx8) (LeL.refl _) ?_
          cases hg4
          cases hv2
          exact Wk.tab ⟨Le.refl _, Le.refl _, Le.refl _, Le.refl _, Le.refl _, Le.refl _, True.intro⟩ ⟨⟨_, rfl, .refl _⟩, ⟨_, rfl, .refl _⟩, True.intro⟩ rfl
    refine Ok.cond (d := 106) (b := v2) rfl h (fun hb h => ?_) fun hb h => ?_
    · refine Ok.seq ?_
      refine Ok.region Try.tok ?_
      refine Ok.wk (Wk.tab (L := [(8, (vb false))]) (H' := []) ⟨Le.refl _, True.intro⟩ True.intro rfl) ?_
      refine Ok.ret ?_
      cases h
      exact Fz.v
    · refine Ok.skip ?_
      refine Ok.seq ?_
      refine Ok.region Try.tok ?_
      obtain ⟨x9, hx9, h⟩ := bindS h
      refine ⟨_, rfl, ⟨_, rfl, ?_⟩⟩
      refine CallOk.call (w_lease_Back hx9) (LeL.refl _) ?_
      refine Ok.wk (Wk.tab (L := [(5, (.b 5 0)), (9, (vb x1)), (11, (vi x2.2.1)), (13, (.s (List.map c_api_Lease x3.1))), (18, (.b 18 0)), (19, (.s (List.map c_api_Lease x9)))]) (H' := [(5, .box [(vi p_q.Client), (vi p_q.Ino), (vi p_q.Kind), (vi p_q.Span.From), (vi p_q.Span.To), (vi p_q.Until), (vi p_q.Epoch)]), (18, .box [(vi ((p_q.Span.From + (Int.tmod ((IntKind.i64.wrap x4)) ((p_q.Span.To - p_q.Span.From)))))), (vi ((((p_q.Span.From + (Int.tmod ((IntKind.i64.wrap x4)) ((p_q.Span.To - p_q.Span.From)))) + 1) + (Int.tmod ((IntKind.i64.wrap x5)) ((p_q.Span.To - (p_q.Span.From + (Int.tmod ((IntKind.i64.wrap x4)) ((p_q.Span.To - p_q.Span.From))))))))))])]) ⟨Le.refl _, Le.refl _, Le.refl _, Le.refl _, Le.refl _, Le.refl _, True.intro⟩ ⟨⟨_, rfl, .refl _⟩, ⟨_, rfl, .refl _⟩, True.intro⟩ rfl) ?_
      refine Ok.seq ?_
      refine Ok.region Try.tok ?_
      obtain ⟨hc8, h⟩ := chk_some h
      obtain ⟨x10, hx10, h⟩ := bindS h
      refine (Or.inl ⟨hc8, ?_⟩)
      refine CallOk.call (w_lease_Over hx10) (LeL.refl _) ?_
      refine Ok.wk (Wk.tab (L := [(5, (.b 5 0)), (9, (vb x1)), (18, (.b 18 0)), (19, (.s (List.map c_api_Lease x9))), (20, (.s (List.map c_api_Lease x10)))]) (H' := [(5, .box [(vi p_q.Client), (vi p_q.Ino), (vi p_q.Kind), (vi p_q.Span.From), (vi p_q.Span.To), (vi p_q.Until), (vi p_q.Epoch)]), (18, .box [(vi ((p_q.Span.From + (Int.tmod ((IntKind.i64.wrap x4)) ((p_q.Span.To - p_q.Span.From)))))), (vi ((((p_q.Span.From + (Int.tmod ((IntKind.i64.wrap x4)) ((p_q.Span.To - p_q.Span.From)))) + 1) + (Int.tmod ((IntKind.i64.wrap x5)) ((p_q.Span.To - (p_q.Span.From + (Int.tmod ((IntKind.i64.wrap x4)) ((p_q.Span.To - p_q.Span.From))))))))))])]) ⟨Le.refl _, Le.refl _, Le.refl _, Le.refl _, Le.refl _, True.intro⟩ ⟨⟨_, rfl, .refl _⟩, ⟨_, rfl, .refl _⟩, True.intro⟩ rfl) ?_
      obtain ⟨v3, hv3, h⟩ := bindS h
      refine Ok.seqw ⟨Cat.tab [(8, (vb v3))], []⟩ ?_ ?_
      · refine Ok.region Try.tok ?_
        obtain ⟨c4, hg5, hv3⟩ := bindS hv3
        refine Br.ite hg5 (fun hb hg5 => ?_) fun hb hg5 => ?_
        · obtain ⟨x11, hx11, hg5⟩ := bindS hg5
          refine ⟨_, rfl, ⟨_, rfl, ⟨_, rfl, ?_⟩⟩⟩
          refine CallOk.call (w_lease_Has hx11) (LeL.refl _) ?_
          cases hg5
          obtain ⟨c5, hg6, hv3⟩ := bindS hv3
          refine Br.ite hg6 (fun hb hg6 => ?_) fun hb hg6 => ?_
          · obtain ⟨x12, hx12, hg6⟩ := bindS hg6
            refine ⟨_, rfl, ⟨_, rfl, ⟨_, rfl, ?_⟩⟩⟩
            refine CallOk.call (w_lease_Has hx12) (LeL.refl _) ?_
            cases hg6
            obtain ⟨c6, hg7, hv3⟩ := bindS hv3
            refine Br.ite hg7 (fun hb hg7 => ?_) fun hb hg7 => ?_
            · refine ⟨_, List.length_map _, fun _ => ?_⟩
              cases hg7
              cases hv3
              exact Wk.tab ⟨Le.refl _, True.intro⟩ True.intro rfl
            · cases hg7
              cases hv3
              exact Wk.tab ⟨Le.refl _, True.intro⟩ True.intro rfl
          · cases hg6
            obtain ⟨c6, hg8, hv3⟩ := bindS hv3
            replace hg8 := iteF hg8
            cases hg8
            cases hv3
            exact Wk.tab ⟨Le.refl _, True.intro⟩ True.intro rfl
        · cases hg5
          obtain ⟨c5, hg9, hv3⟩ := bindS hv3
          replace hg9 := iteF hg9
          cases hg9
          obtain ⟨c6, hg10, hv3⟩ := bindS hv3
          replace hg10 := iteF hg10
          cases hg10
          cases hv3
          exact Wk.tab ⟨Le.refl _, True.intro⟩ True.intro rfl
      refine Ok.ret ?_
      cases h
      exact Fz.v

end Go.Proofs
