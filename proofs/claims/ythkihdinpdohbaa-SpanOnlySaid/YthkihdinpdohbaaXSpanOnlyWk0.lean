/- The walks of this seat beside the plain programs, part 0. No condition. -/
import Derived.Test.YthkihdinpdohbaaXSpanOnlyEn
namespace Go.Proofs
set_option linter.all false
open Go Go.Cat
set_option maxRecDepth 100000

theorem wo_span_edges {p_l : List api_Span} {p_set : Int} {r : (List span_edge)} (h : span_edges p_l p_set = some r) : POwn Try.prog 35 [(.s (List.map c_api_Span p_l)), (vi p_set)] 48 3 (List.map c_span_edge r) := by
  refine pown_of_ok (n := 36) (c := (Try.f35.body.getD .skip)) Try.tok Try.func35 (by kernel_rfl) rfl rfl (Nat.le_of_ble_eq_true rfl) ?_
  unfold span_edges at h
  refine Ok.wk (Wk.tab (L := [(0, (.s (List.map c_api_Span p_l))), (1, (vi p_set))]) (H' := []) ⟨Le.refl _, Le.refl _, True.intro⟩ True.intro rfl) ?_
  refine Ok.seq ?_
  refine Ok.region Try.tok ?_
  refine Ok.wk (Wk.tab (L := [(0, (.s (List.map c_api_Span p_l))), (1, (vi p_set))]) (H' := []) ⟨Le.refl _, Le.refl _, True.intro⟩ True.intro rfl) ?_
  refine Ok.seq ?_
  refine Ok.region Try.tok ?_
  refine Ok.wk (Wk.tab (L := [(0, (.s (List.map c_api_Span p_l))), (1, (vi p_set)), (5, (.v (.slice none 0 0)))]) (H' := []) ⟨Le.refl _, Le.refl _, Le.refl _, True.intro⟩ True.intro rfl) ?_
  obtain ⟨v1, hv1, h⟩ := bindS h
  refine Ok.seqw ⟨Cat.tab [(5, (.o 33))], [(33, .own 48 3 (List.map c_span_edge v1))]⟩ ?_ ?_
  · refine Ok.seq ?_
    refine Ok.region Try.tok ?_
    refine ⟨_, List.length_map _, fun _ => ?_⟩
    refine Ok.wk (Wk.tab (L := [(1, (vi p_set)), (5, (.v (.slice none 0 0))), (10, (.s (List.map c_api_Span p_l))), (11, (vi ((p_l.length : Int)))), (12, (vi (0)))]) (H' := []) ⟨Le.refl _, Le.refl _, Le.refl _, Le.refl _, Le.refl _, True.intro⟩ True.intro rfl) ?_
    refine Ok.block ?_
    refine Ok.loop (fun s1 => ⟨Cat.tab [(1, (vi p_set)), (5, (.o 33)), (10, (.s (List.map c_api_Span p_l))), (11, (vi ((p_l.length : Int)))), (12, (vi s1.1))], [(33, .own 48 3 (List.map c_span_edge s1.2))]⟩) (span_edges_B1 p_l p_set) (s0 := (0, [])) hv1 ((Wk.own0 (t := 5) (id := 33) (E := 48) (K := 3) rfl rfl).trans (Wk.tab ⟨Le.refl _, Le.refl _, Le.refl _, Le.refl _, Le.refl _, True.intro⟩ ⟨⟨_, rfl, .refl _⟩, True.intro⟩ rfl)) ?_
    intro s1 y1 hB1 hy1
    unfold span_edges_B1 at hB1
    refine Ok.seq ?_
    refine Ok.region Try.tok ?_
    refine Ok.wk (Wk.tab (L := [(1, (vi p_set)), (5, (.o 33)), (10, (.s (List.map c_api_Span p_l))), (11, (vi ((p_l.length : Int)))), (12, (vi s1.1)), (13, (vb ((decide (s1.1 < (p_l.length : Int))))))]) (H' := [(33, .own 48 3 (List.map c_span_edge s1.2))]) ⟨Le.refl _, Le.refl _, Le.refl _, Le.refl _, Le.refl _, Le.refl _, True.intro⟩ ⟨⟨_, rfl, .refl _⟩, True.intro⟩ rfl) ?_
    refine Ok.seq ?_
    refine Ok.cond (d := 13) (b := (decide (s1.1 < (p_l.length : Int)))) rfl hB1 (fun hb hB1 => ?_) fun hb hB1 => ?_
    · refine Ok.skip ?_
      obtain ⟨v2, hv2, hB1⟩ := bindS hB1
      refine Ok.seqw ⟨Cat.tab [(1, (vi p_set)), (5, (.o 33)), (10, (.s (List.map c_api_Span p_l))), (11, (vi ((p_l.length : Int)))), (12, (vi s1.1))], [(33, .own 48 3 (List.map c_span_edge v2))]⟩ ?_ ?_
      · refine Ok.block ?_
        refine Ok.seq ?_
        refine Ok.region Try.tok ?_
        obtain ⟨x1, hx1, hv2⟩ := bindS hv2
        refine ⟨_, idx_nat hx1, _, idx_row hx1, ⟨_, rfl, ⟨_, rfl, ?_⟩⟩⟩
        refine Ok.wk (Wk.tab (L := [(1, (vi p_set)), (5, (.o 33)), (7, (.b 7 0)), (10, (.s (List.map c_api_Span p_l))), (11, (vi ((p_l.length : Int)))), (12, (vi s1.1))]) (H' := [(33, .own 48 3 (List.map c_span_edge s1.2)), (7, .box [(vi x1.From), (vi x1.To)])]) ⟨Le.refl _, Le.refl _, Le.refl _, Le.refl _, Le.refl _, Le.refl _, True.intro⟩ ⟨⟨_, rfl, .refl _⟩, ⟨_, rfl, .refl _⟩, True.intro⟩ rfl) ?_
        refine Ok.seq ?_
        refine Ok.draw (m := 8) Try.tok Try.mixed (by kernel_rfl) ?_
        refine ⟨_, rfl, ⟨_, ⟨_, rfl, rfl⟩, ⟨_, ⟨_, rfl, rfl⟩, ⟨_, rfl, ⟨_, ⟨_, rfl, rfl⟩, ⟨_, ⟨_, rfl, rfl⟩, ⟨_, rfl, ⟨_, rfl, ?_⟩⟩⟩⟩⟩⟩⟩⟩
        refine Ok.wk (Wk.tab (L := [(1, (vi p_set)), (5, (.o 33)), (8, (vi ((max x1.From (0))))), (9, (vi ((min x1.To (1099511627776))))), (10, (.s (List.map c_api_Span p_l))), (11, (vi ((p_l.length : Int)))), (12, (vi s1.1))]) (H' := [(33, .own 48 3 (List.map c_span_edge s1.2))]) ⟨Le.refl _, Le.refl _, Le.refl _, Le.refl _, Le.refl _, Le.refl _, Le.refl _, True.intro⟩ ⟨⟨_, rfl, .refl _⟩, True.intro⟩ rfl) ?_
        refine Ok.seq ?_
        refine Ok.region Try.tok ?_
        refine Ok.wk (Wk.tab (L := [(1, (vi p_set)), (5, (.o 33)), (8, (vi ((max x1.From (0))))), (9, (vi ((min x1.To (1099511627776))))), (10, (.s (List.map c_api_Span p_l))), (11, (vi ((p_l.length : Int)))), (12, (vi s1.1)), (24, (vb ((decide ((max x1.From (0)) < (min x1.To (1099511627776)))))))]) (H' := [(33, .own 48 3 (List.map c_span_edge s1.2))]) ⟨Le.refl _, Le.refl _, Le.refl _, Le.refl _, Le.refl _, Le.refl _, Le.refl _, Le.refl _, True.intro⟩ ⟨⟨_, rfl, .refl _⟩, True.intro⟩ rfl) ?_
        refine Ok.cond (d := 24) (b := (decide ((max x1.From (0)) < (min x1.To (1099511627776))))) rfl hv2 (fun hb hv2 => ?_) fun hb hv2 => ?_
        · refine Ok.region Try.tok ?_
          obtain ⟨hc1, hv2⟩ := chk_some hv2
          refine Or.inl ⟨rowsLen_map (f := c_span_edge) (n := 3) (fun _ => rfl) ([(⟨(max x1.From (0)), p_set, true⟩ : span_edge), (⟨(min x1.To (1099511627776)), p_set, false⟩ : span_edge)]), app_b2 (f := c_span_edge) (l := s1.2) (l' := ([(⟨(max x1.From (0)), p_set, true⟩ : span_edge), (⟨(min x1.To (1099511627776)), p_set, false⟩ : span_edge)])) hc1, _, (List.map_append (f := c_span_edge) (l₁ := s1.2) (l₂ := ([(⟨(max x1.From (0)), p_set, true⟩ : span_edge), (⟨(min x1.To (1099511627776)), p_set, false⟩ : span_edge)]))).symm, ?_⟩
          cases hv2
          exact Wk.tab ⟨Le.refl _, Le.refl _, Le.refl _, Le.refl _, Le.refl _, True.intro⟩ ⟨⟨_, rfl, .refl _⟩, True.intro⟩ rfl
        · refine Ok.skip ?_
          cases hv2
          exact Wk.tab ⟨Le.refl _, Le.refl _, Le.refl _, Le.refl _, Le.refl _, True.intro⟩ ⟨⟨_, rfl, .refl _⟩, True.intro⟩ rfl
      refine Ok.region Try.tok ?_
      obtain ⟨hc2, hB1⟩ := chk_some hB1
      refine (Or.inl ⟨hc2, ?_⟩)
      exact ⟨_, (Option.some.inj hB1).symm, Wk.tab ⟨Le.refl _, Le.refl _, Le.refl _, Le.refl _, Le.refl _, True.intro⟩ ⟨⟨_, rfl, .refl _⟩, True.intro⟩ rfl⟩
    · refine Ok.exit ?_
      have hB1 := out_ret hB1 hy1
      cases hB1
      exact Wk.tab ⟨Le.refl _, True.intro⟩ ⟨⟨_, rfl, .refl _⟩, True.intro⟩ rfl
  refine Ok.seq ?_
  refine Ok.region Try.tok ?_
  refine Ok.wk (Wk.tab (L := [(4, (.o 33))]) (H' := [(33, .own 48 3 (List.map c_span_edge v1))]) ⟨Le.refl _, True.intro⟩ ⟨⟨_, rfl, .refl _⟩, True.intro⟩ rfl) ?_
  refine Ok.ret ?_
  cases h
  exact (.inr ⟨_, rfl, rfl⟩)
theorem w_span_edges {p_l : List api_Span} {p_set : Int} {r : (List span_edge)} (h : span_edges p_l p_set = some r) : Pure Try.prog 35 [(.s (List.map c_api_Span p_l)), (vi p_set)] (.s (List.map c_span_edge r)) := (wo_span_edges h).pure

theorem w_cmp_isNaN_int {p_x : Int} {r : Bool} (h : cmp_isNaN_int p_x = some r) : Pure Try.prog 42 [(vi p_x)] (vb r) := by
  refine pure_of_ok (n := 6) (c := (Try.f42.body.getD .skip)) Try.tok Try.func42 (by kernel_rfl) rfl rfl (Nat.le_of_ble_eq_true rfl) ?_
  unfold cmp_isNaN_int at h
  refine Ok.wk (Wk.tab (L := [(0, (vi p_x))]) (H' := []) ⟨Le.refl _, True.intro⟩ True.intro rfl) ?_
  refine Ok.seq ?_
  refine Ok.region Try.tok ?_
  refine Ok.wk (Wk.tab (L := [(0, (vi p_x))]) (H' := []) ⟨Le.refl _, True.intro⟩ True.intro rfl) ?_
  refine Ok.seq ?_
  refine Ok.region Try.tok ?_
  refine Ok.wk (Wk.tab (L := [(2, (vb ((p_x != p_x))))]) (H' := []) ⟨Le.refl _, True.intro⟩ True.intro rfl) ?_
  refine Ok.ret ?_
  cases h
  exact Fz.v

theorem w_cmp_Compare_int {p_x : Int} {p_y : Int} {r : Int} (h : cmp_Compare_int p_x p_y = some r) : Pure Try.prog 38 [(vi p_x), (vi p_y)] (vi r) := by
  refine pure_of_ok (n := 20) (c := (Try.f38.body.getD .skip)) Try.tok Try.func38 (by kernel_rfl) rfl rfl (Nat.le_of_ble_eq_true rfl) ?_
  unfold cmp_Compare_int at h
  refine Ok.wk (Wk.tab (L := [(0, (vi p_x)), (1, (vi p_y))]) (H' := []) ⟨Le.refl _, Le.refl _, True.intro⟩ True.intro rfl) ?_
  refine Ok.seq ?_
  refine Ok.region Try.tok ?_
  refine Ok.wk (Wk.tab (L := [(0, (vi p_x)), (1, (vi p_y))]) (H' := []) ⟨Le.refl _, Le.refl _, True.intro⟩ True.intro rfl) ?_
  refine Ok.seq ?_
  refine Ok.region Try.tok ?_
  obtain ⟨x1, hx1, h⟩ := bindS h
  refine CallOk.call (w_cmp_isNaN_int hx1) (LeL.refl _) ?_
  refine Ok.wk (Wk.tab (L := [(0, (vi p_x)), (1, (vi p_y)), (5, (vb x1))]) (H' := []) ⟨Le.refl _, Le.refl _, Le.refl _, True.intro⟩ True.intro rfl) ?_
  refine Ok.seq ?_
  refine Ok.region Try.tok ?_
  obtain ⟨x2, hx2, h⟩ := bindS h
  refine CallOk.call (w_cmp_isNaN_int hx2) (LeL.refl _) ?_
  refine Ok.wk (Wk.tab (L := [(0, (vi p_x)), (1, (vi p_y)), (5, (vb x1)), (6, (vb x2))]) (H' := []) ⟨Le.refl _, Le.refl _, Le.refl _, Le.refl _, True.intro⟩ True.intro rfl) ?_
  refine Ok.seq ?_
  refine Ok.seq ?_
  refine Ok.region Try.tok ?_
  refine Ok.wk (Wk.tab (L := [(0, (vi p_x)), (1, (vi p_y)), (6, (vb x2)), (11, (vb x1))]) (H' := []) ⟨Le.refl _, Le.refl _, Le.refl _, Le.refl _, True.intro⟩ True.intro rfl) ?_
  refine Ok.cond (d := 11) (b := x1) rfl h (fun hb h => ?_) fun hb h => ?_
  · refine Ok.seq ?_
    refine Ok.seq ?_
    refine Ok.region Try.tok ?_
    refine Ok.wk (Wk.tab (L := [(12, (vb x2))]) (H' := []) ⟨Le.refl _, True.intro⟩ True.intro rfl) ?_
    refine Ok.cond (d := 12) (b := x2) rfl h (fun hb h => ?_) fun hb h => ?_
    · refine Ok.seq ?_
      refine Ok.region Try.tok ?_
      refine Ok.wk (Wk.tab (L := [(4, (vi (0)))]) (H' := []) ⟨Le.refl _, True.intro⟩ True.intro rfl) ?_
      refine Ok.ret ?_
      cases h
      exact Fz.v
    · refine Ok.skip ?_
      refine Ok.seq ?_
      refine Ok.region Try.tok ?_
      refine Ok.wk (Wk.tab (L := [(4, (vi ((-1))))]) (H' := []) ⟨Le.refl _, True.intro⟩ True.intro rfl) ?_
      refine Ok.ret ?_
      cases h
      exact Fz.v
  · refine Ok.skip ?_
    refine Ok.seq ?_
    refine Ok.seq ?_
    refine Ok.region Try.tok ?_
    refine Ok.wk (Wk.tab (L := [(0, (vi p_x)), (1, (vi p_y)), (13, (vb x2))]) (H' := []) ⟨Le.refl _, Le.refl _, Le.refl _, True.intro⟩ True.intro rfl) ?_
    refine Ok.cond (d := 13) (b := x2) rfl h (fun hb h => ?_) fun hb h => ?_
    · refine Ok.seq ?_
      refine Ok.region Try.tok ?_
      refine Ok.wk (Wk.tab (L := [(4, (vi (1)))]) (H' := []) ⟨Le.refl _, True.intro⟩ True.intro rfl) ?_
      refine Ok.ret ?_
      cases h
      exact Fz.v
    · refine Ok.skip ?_
      refine Ok.seq ?_
      refine Ok.seq ?_
      refine Ok.region Try.tok ?_
      refine Ok.wk (Wk.tab (L := [(0, (vi p_x)), (1, (vi p_y)), (16, (vb ((decide (p_x < p_y)))))]) (H' := []) ⟨Le.refl _, Le.refl _, Le.refl _, True.intro⟩ True.intro rfl) ?_
      refine Ok.cond (d := 16) (b := (decide (p_x < p_y))) rfl h (fun hb h => ?_) fun hb h => ?_
      · refine Ok.seq ?_
        refine Ok.region Try.tok ?_
        refine Ok.wk (Wk.tab (L := [(4, (vi ((-1))))]) (H' := []) ⟨Le.refl _, True.intro⟩ True.intro rfl) ?_
        refine Ok.ret ?_
        cases h
        exact Fz.v
      · refine Ok.skip ?_
        refine Ok.seq ?_
        refine Ok.seq ?_
        refine Ok.region Try.tok ?_
        refine Ok.wk (Wk.tab (L := [(19, (vb ((decide (p_x > p_y)))))]) (H' := []) ⟨Le.refl _, True.intro⟩ True.intro rfl) ?_
        refine Ok.cond (d := 19) (b := (decide (p_x > p_y))) rfl h (fun hb h => ?_) fun hb h => ?_
        · refine Ok.seq ?_
          refine Ok.region Try.tok ?_
          refine Ok.wk (Wk.tab (L := [(4, (vi (1)))]) (H' := []) ⟨Le.refl _, True.intro⟩ True.intro rfl) ?_
          refine Ok.ret ?_
          cases h
          exact Fz.v
        · refine Ok.skip ?_
          refine Ok.seq ?_
          refine Ok.region Try.tok ?_
          refine Ok.wk (Wk.tab (L := [(4, (vi (0)))]) (H' := []) ⟨Le.refl _, True.intro⟩ True.intro rfl) ?_
          refine Ok.ret ?_
          cases h
          exact Fz.v

theorem w_span_asked_of_1 {p_x : span_edge} {p_y : span_edge} {r : Int} (h : span_asked_of_1 p_x p_y = some r) : Pure Try.prog 37 [(.a [(vi p_x.at_), (vi p_x.set_), (vb p_x.begins_)]), (.a [(vi p_y.at_), (vi p_y.set_), (vb p_y.begins_)])] (vi r) := by
  refine pure_of_ok (n := 10) (c := (Try.f37.body.getD .skip)) Try.tok Try.func37 (by kernel_rfl) rfl rfl (Nat.le_of_ble_eq_true rfl) ?_
  unfold span_asked_of_1 at h
  refine Ok.wk (Wk.tab (L := [(0, (.a [(vi p_x.at_), (vi p_x.set_), (vb p_x.begins_)])), (1, (.a [(vi p_y.at_), (vi p_y.set_), (vb p_y.begins_)]))]) (H' := []) ⟨Le.refl _, Le.refl _, True.intro⟩ True.intro rfl) ?_
  refine Ok.seq ?_
  refine Ok.region Try.tok ?_
  refine Ok.wk (Wk.tab (L := [(2, (.b 2 0)), (3, (.b 3 0))]) (H' := [(2, .box [(vi p_x.at_), (vi p_x.set_), (vb p_x.begins_)]), (3, .box [(vi p_y.at_), (vi p_y.set_), (vb p_y.begins_)])]) ⟨Le.refl _, Le.refl _, True.intro⟩ ⟨⟨_, rfl, .refl _⟩, ⟨_, rfl, .refl _⟩, True.intro⟩ rfl) ?_
  refine Ok.seq ?_
  refine Ok.region Try.tok ?_
  obtain ⟨x1, hx1, h⟩ := bindS h
  refine ⟨_, rfl, ⟨_, rfl, ?_⟩⟩
  refine CallOk.call (w_cmp_Compare_int hx1) (LeL.refl _) ?_
  refine Ok.wk (Wk.tab (L := [(4, (vi x1))]) (H' := []) ⟨Le.refl _, True.intro⟩ True.intro rfl) ?_
  refine Ok.ret ?_
  cases h
  exact Fz.v

theorem w_span_Add_1 {p_x : Bool} {p_y : Bool} {r : Bool} (h : span_Add_1 p_x p_y = some r) : Pure Try.prog 27 [(vb p_x), (vb p_y)] (vb r) := by
  refine pure_of_ok (n := 9) (c := (Try.f27.body.getD .skip)) Try.tok Try.func27 (by kernel_rfl) rfl rfl (Nat.le_of_ble_eq_true rfl) ?_
  unfold span_Add_1 at h
  refine Ok.wk (Wk.tab (L := [(0, (vb p_x)), (1, (vb p_y))]) (H' := []) ⟨Le.refl _, Le.refl _, True.intro⟩ True.intro rfl) ?_
  refine Ok.seq ?_
  refine Ok.region Try.tok ?_
  refine Ok.wk (Wk.tab (L := [(0, (vb p_x)), (1, (vb p_y))]) (H' := []) ⟨Le.refl _, Le.refl _, True.intro⟩ True.intro rfl) ?_
  obtain ⟨v1, hv1, h⟩ := bindS h
  refine Ok.seqw ⟨Cat.tab [(4, (vb v1))], []⟩ ?_ ?_
  · refine Ok.region Try.tok ?_
    obtain ⟨c1, hg1, hv1⟩ := bindS hv1
    refine Br.itf hg1 (fun hb hg1 => ?_) fun hb hg1 => ?_
    · cases hg1
      cases hv1
      exact Wk.tab ⟨Le.refl _, True.intro⟩ True.intro rfl
    · cases hg1
      cases hv1
      exact Wk.tab ⟨Le.refl _, True.intro⟩ True.intro rfl
  refine Ok.ret ?_
  cases h
  exact Fz.v

theorem wo_span_asked_of__span_Add_1 {p_a : List api_Span} {p_b : List api_Span} {r : (List api_Span)} (h : span_asked_of__span_Add_1 p_a p_b = some r) : POwn Try.prog 28 [(.a [(.c (.func 27) [] [])]), (.s (List.map c_api_Span p_a)), (.s (List.map c_api_Span p_b))] 33 2 (List.map c_api_Span r) := by
  refine pown_of_ok (n := 87) (c := (Try.f28.body.getD .skip)) Try.tok Try.func28 (by kernel_rfl) rfl rfl (Nat.le_of_ble_eq_true rfl) ?_
  unfold span_asked_of__span_Add_1 at h
  refine Ok.wk (Wk.tab (L := [(0, (.a [(.c (.func 27) [] [])])), (1, (.s (List.map c_api_Span p_a))), (2, (.s (List.map c_api_Span p_b)))]) (H' := []) ⟨Le.refl _, Le.refl _, Le.refl _, True.intro⟩ True.intro rfl) ?_
  refine Ok.seq ?_
  refine Ok.region Try.tok ?_
  refine Ok.wk (Wk.tab (L := [(1, (.s (List.map c_api_Span p_a))), (2, (.s (List.map c_api_Span p_b))), (3, (.b 3 0))]) (H' := [(3, .box [(.c (.func 27) [] [])])]) ⟨Le.refl _, Le.refl _, Le.refl _, True.intro⟩ ⟨⟨_, rfl, .refl _⟩, True.intro⟩ rfl) ?_
  refine Ok.seq ?_
  refine Ok.region Try.tok ?_
  obtain ⟨x1, hx1, h⟩ := bindS h
  refine CallOk.own (D := 16) (wo_span_edges hx1) (LeL.refl _) rfl ?_
  obtain ⟨x2, hx2, h⟩ := bindS h
  refine CallOk.call (w_span_edges hx2) (LeL.refl _) ?_
  obtain ⟨hc1, h⟩ := chk_some h
  refine ⟨rowsLen_map (f := c_span_edge) (n := 3) (fun _ => rfl) x2, app_b2 (f := c_span_edge) (l := x1) (l' := x2) hc1, _, (List.map_append (f := c_span_edge) (l₁ := x1) (l₂ := x2)).symm, ?_⟩
  refine Ok.wk (Wk.tab (L := [(3, (.b 3 0)), (7, (.o 16))]) (H' := [(3, .box [(.c (.func 27) [] [])]), (16, .own 48 3 (List.map c_span_edge ((x1 ++ x2))))]) ⟨Le.refl _, Le.refl _, True.intro⟩ ⟨⟨_, rfl, .refl _⟩, ⟨_, rfl, .refl _⟩, True.intro⟩ rfl) ?_
  refine Ok.seq ?_
  refine Ok.region Try.tok ?_
  obtain ⟨x3, hx3, h⟩ := bindS h
  refine CallOk.chgLe (id := 16) (pchg_sortF (E := 48) (enc := c_span_edge) Try.says36 Try.enters36 (fun _ => rfl) (fun _ => rfl) (fun _ _ _ h => w_span_asked_of_1 h) (enters_of Try.func37 (by kernel_rfl) rfl) hx3) rfl (.refl _) rfl (.cons Lr.o (.cons (Lr.imm rfl) .nil)) ?_
  rintro _ _ ⟨rfl, rfl⟩
  refine Ok.wk (Wk.tab (L := [(3, (.b 3 0)), (7, (.o 16))]) (H' := [(3, .box [(.c (.func 27) [] [])]), (16, .own 48 3 (List.map c_span_edge x3))]) ⟨Le.refl _, Le.refl _, True.intro⟩ ⟨⟨_, rfl, .refl _⟩, ⟨_, rfl, .refl _⟩, True.intro⟩ rfl) ?_
  refine Ok.seq ?_
  refine Ok.region Try.tok ?_
  refine Ok.wk (Wk.tab (L := [(3, (.b 3 0)), (7, (.o 16)), (8, (.v (.slice none 0 0)))]) (H' := [(3, .box [(.c (.func 27) [] [])]), (16, .own 48 3 (List.map c_span_edge x3))]) ⟨Le.refl _, Le.refl _, Le.refl _, True.intro⟩ ⟨⟨_, rfl, .refl _⟩, ⟨_, rfl, .refl _⟩, True.intro⟩ rfl) ?_
  refine Ok.seq ?_
  refine Ok.region Try.tok ?_
  refine Ok.wk (Wk.tab (L := [(3, (.b 3 0)), (7, (.o 16)), (8, (.v (.slice none 0 0))), (9, (.b 9 0))]) (H' := [(3, .box [(.c (.func 27) [] [])]), (16, .own 48 3 (List.map c_span_edge x3)), (9, .box (List.map vi ((List.replicate 2 0))))]) ⟨Le.refl _, Le.refl _, Le.refl _, Le.refl _, True.intro⟩ ⟨⟨_, rfl, .refl _⟩, ⟨_, rfl, .refl _⟩, ⟨_, rfl, .refl _⟩, True.intro⟩ rfl) ?_
  refine Ok.seq ?_
  refine Ok.region Try.tok ?_
  refine Ok.wk (Wk.tab (L := [(3, (.b 3 0)), (7, (.o 16)), (8, (.v (.slice none 0 0))), (9, (.b 9 0)), (10, (vi ((-1))))]) (H' := [(3, .box [(.c (.func 27) [] [])]), (16, .own 48 3 (List.map c_span_edge x3)), (9, .box (List.map vi ((List.replicate 2 0))))]) ⟨Le.refl _, Le.refl _, Le.refl _, Le.refl _, Le.refl _, True.intro⟩ ⟨⟨_, rfl, .refl _⟩, ⟨_, rfl, .refl _⟩, ⟨_, rfl, .refl _⟩, True.intro⟩ rfl) ?_
  obtain ⟨v1, hv1, h⟩ := bindS h
  refine Ok.seqw ⟨Cat.tab [(8, (.o 84))], [(84, .own 33 2 (List.map c_api_Span v1))]⟩ ?_ ?_
  · refine Ok.seq ?_
    refine Ok.region Try.tok ?_
    refine ⟨_, List.length_map _, fun _ => ?_⟩
    refine Ok.wk (Wk.tab (L := [(3, (.b 3 0)), (7, (.o 16)), (8, (.v (.slice none 0 0))), (9, (.b 9 0)), (10, (vi ((-1)))), (22, (.o 16)), (23, (vi ((x3.length : Int)))), (24, (vi (0)))]) (H' := [(3, .box [(.c (.func 27) [] [])]), (16, .own 48 3 (List.map c_span_edge x3)), (9, .box (List.map vi ((List.replicate 2 0))))]) ⟨Le.refl _, Le.refl _, Le.refl _, Le.refl _, Le.refl _, Le.refl _, Le.refl _, Le.refl _, True.intro⟩ ⟨⟨_, rfl, .refl _⟩, ⟨_, rfl, .refl _⟩, ⟨_, rfl, .refl _⟩, True.intro⟩ rfl) ?_
    refine Ok.block ?_
    refine Ok.loop (fun s1 => ⟨Cat.tab [(3, (.b 3 0)), (7, (.o 16)), (8, (.o 84)), (9, (.b 9 0)), (10, (vi s1.1)), (22, (.o 16)), (23, (vi ((x3.length : Int)))), (24, (vi s1.2.1))], [(3, .box [(.c (.func 27) [] [])]), (16, .own 48 3 (List.map c_span_edge x3)), (84, .own 33 2 (List.map c_api_Span s1.2.2.1)), (9, .box (List.map vi s1.2.2.2))]⟩) (span_asked_of__span_Add_1_B1 x3) (s0 := ((-1), 0, [], (List.replicate 2 0))) hv1 ((Wk.own0 (t := 8) (id := 84) (E := 33) (K := 2) rfl rfl).trans (Wk.tab ⟨Le.refl _, Le.refl _, Le.refl _, Le.refl _, Le.refl _, Le.refl _, Le.refl _, Le.refl _, True.intro⟩ ⟨⟨_, rfl, .refl _⟩, ⟨_, rfl, .refl _⟩, ⟨_, rfl, .refl _⟩, ⟨_, rfl, .arr1 (fun _ _ => rfl)⟩, True.intro⟩ rfl)) ?_
    intro s1 y1 hB1 hy1
    unfold span_asked_of__span_Add_1_B1 at hB1
    refine Ok.seq ?_
    refine Ok.region Try.tok ?_
    refine Ok.wk (Wk.tab (L := [(3, (.b 3 0)), (7, (.o 16)), (8, (.o 84)), (9, (.b 9 0)), (10, (vi s1.1)), (22, (.o 16)), (23, (vi ((x3.length : Int)))), (24, (vi s1.2.1)), (25, (vb ((decide (s1.2.1 < (x3.length : Int))))))]) (H' := [(3, .box [(.c (.func 27) [] [])]), (16, .own 48 3 (List.map c_span_edge x3)), (84, .own 33 2 (List.map c_api_Span s1.2.2.1)), (9, .box (List.map vi s1.2.2.2))]) ⟨Le.refl _, Le.refl _, Le.refl _, Le.refl _, Le.refl _, Le.refl _, Le.refl _, Le.refl _, Le.refl _, True.intro⟩ ⟨⟨_, rfl, .refl _⟩, ⟨_, rfl, .refl _⟩, ⟨_, rfl, .refl _⟩, ⟨_, rfl, .refl _⟩, True.intro⟩ rfl) ?_
    refine Ok.seq ?_
    refine Ok.cond (d := 25) (b := (decide (s1.2.1 < (x3.length : Int)))) rfl hB1 (fun hb hB1 => ?_) fun hb hB1 => ?_
    · refine Ok.skip ?_
      obtain ⟨v2, hv2, hB1⟩ := bindS hB1
      refine Ok.seqw ⟨Cat.tab [(3, (.b 3 0)), (7, (.o 16)), (8, (.o 84)), (9, (.b 9 0)), (10, (vi v2.1)), (22, (.o 16)), (23, (vi ((x3.length : Int)))), (24, (vi s1.2.1))], [(3, .box [(.c (.func 27) [] [])]), (16, .own 48 3 (List.map c_span_edge x3)), (84, .own 33 2 (List.map c_api_Span v2.2.1)), (9, .box (List.map vi v2.2.2))]⟩ ?_ ?_
      · refine Ok.block ?_
        refine Ok.seq ?_
        refine Ok.region Try.tok ?_
        obtain ⟨x4, hx4, hv2⟩ := bindS hv2
        refine ⟨_, idx_nat hx4, idx_ltm hx4, ⟨_, idx_row hx4, rfl, _, rfl, ⟨_, rfl, ?_⟩⟩⟩
        refine Ok.wk (Wk.tab (L := [(3, (.b 3 0)), (7, (.o 16)), (8, (.o 84)), (9, (.b 9 0)), (10, (vi s1.1)), (11, (vi s1.2.1)), (12, (.b 12 0)), (22, (.o 16)), (23, (vi ((x3.length : Int)))), (24, (vi s1.2.1))]) (H' := [(3, .box [(.c (.func 27) [] [])]), (16, .own 48 3 (List.map c_span_edge x3)), (84, .own 33 2 (List.map c_api_Span s1.2.2.1)), (9, .box (List.map vi s1.2.2.2)), (12, .box [(vi x4.at_), (vi x4.set_), (vb x4.begins_)])]) ⟨Le.refl _, Le.refl _, Le.refl _, Le.refl _, Le.refl _, Le.refl _, Le.refl _, Le.refl _, Le.refl _, Le.refl _, True.intro⟩ ⟨⟨_, rfl, .refl _⟩, ⟨_, rfl, .refl _⟩, ⟨_, rfl, .refl _⟩, ⟨_, rfl, .arr1 (fun _ _ => rfl)⟩, ⟨_, rfl, .refl _⟩, True.intro⟩ rfl) ?_
        refine Ok.seq ?_
        refine Ok.region Try.tok ?_
        refine Ok.wk (Wk.tab (L := [(3, (.b 3 0)), (7, (.o 16)), (8, (.o 84)), (9, (.b 9 0)), (10, (vi s1.1)), (11, (vi s1.2.1)), (12, (.b 12 0)), (13, (vi (1))), (22, (.o 16)), (23, (vi ((x3.length : Int)))), (24, (vi s1.2.1))]) (H' := [(3, .box [(.c (.func 27) [] [])]), (16, .own 48 3 (List.map c_span_edge x3)), (84, .own 33 2 (List.map c_api_Span s1.2.2.1)), (9, .box (List.map vi s1.2.2.2)), (12, .box [(vi x4.at_), (vi x4.set_), (vb x4.begins_)])]) ⟨Le.refl _, Le.refl _, Le.refl _, Le.refl _, Le.refl _, Le.refl _, Le.refl _, Le.refl _, Le.refl _, Le.refl _, Le.refl _, True.intro⟩ ⟨⟨_, rfl, .refl _⟩, ⟨_, rfl, .refl _⟩, ⟨_, rfl, .refl _⟩, ⟨_, rfl, .refl _⟩, ⟨_, rfl, .refl _⟩, True.intro⟩ rfl) ?_
        refine Ok.seq ?_
        refine Ok.block ?_
        obtain ⟨v3, hv3, hv2⟩ := bindS hv2
        refine Ok.seqw ⟨Cat.tab [(3, (.b 3 0)), (7, (.o 16)), (8, (.o 84)), (9, (.b 9 0)), (10, (vi s1.1)), (11, (vi s1.2.1)), (12, (.b 12 0)), (13, (vi v3)), (22, (.o 16)), (23, (vi ((x3.length : Int)))), (24, (vi s1.2.1))], [(3, .box [(.c (.func 27) [] [])]), (16, .own 48 3 (List.map c_span_edge x3)), (84, .own 33 2 (List.map c_api_Span s1.2.2.1)), (9, .box (List.map vi s1.2.2.2)), (12, .box [(vi x4.at_), (vi x4.set_), (vb x4.begins_)])]⟩ ?_ ?_
        · refine Ok.block ?_
          refine Ok.seq ?_
          refine Ok.block ?_
          refine Ok.seq ?_
          refine Ok.seq ?_
          refine Ok.region Try.tok ?_
          refine ⟨_, rfl, ?_⟩
          refine Ok.wk (Wk.tab (L := [(3, (.b 3 0)), (7, (.o 16)), (8, (.o 84)), (9, (.b 9 0)), (10, (vi s1.1)), (11, (vi s1.2.1)), (12, (.b 12 0)), (13, (vi (1))), (22, (.o 16)), (23, (vi ((x3.length : Int)))), (24, (vi s1.2.1)), (29, (vb ((!x4.begins_))))]) (H' := [(3, .box [(.c (.func 27) [] [])]), (16, .own 48 3 (List.map c_span_edge x3)), (84, .own 33 2 (List.map c_api_Span s1.2.2.1)), (9, .box (List.map vi s1.2.2.2)), (12, .box [(vi x4.at_), (vi x4.set_), (vb x4.begins_)])]) ⟨Le.refl _, Le.refl _, Le.refl _, Le.refl _, Le.refl _, Le.refl _, Le.refl _, Le.refl _, Le.refl _, Le.refl _, Le.refl _, Le.refl _, True.intro⟩ ⟨⟨_, rfl, .refl _⟩, ⟨_, rfl, .refl _⟩, ⟨_, rfl, .refl _⟩, ⟨_, rfl, .refl _⟩, ⟨_, rfl, .refl _⟩, True.intro⟩ rfl) ?_
          refine Ok.cond (d := 29) (b := (!x4.begins_)) rfl hv3 (fun hb hv3 => ?_) fun hb hv3 => ?_
          · refine Ok.exit ?_
            refine Ok.region Try.tok ?_
            cases hv3
            exact Wk.tab ⟨Le.refl _, Le.refl _, Le.refl _, Le.refl _, Le.refl _, Le.refl _, Le.refl _, Le.refl _, Le.refl _, Le.refl _, Le.refl _, True.intro⟩ ⟨⟨_, rfl, .refl _⟩, ⟨_, rfl, .refl _⟩, ⟨_, rfl, .refl _⟩, ⟨_, rfl, .refl _⟩, ⟨_, rfl, .refl _⟩, True.intro⟩ rfl
          · refine Ok.skip ?_
            refine Ok.exit ?_
            cases hv3
            exact Wk.tab ⟨Le.refl _, Le.refl _, Le.refl _, Le.refl _, Le.refl _, Le.refl _, Le.refl _, Le.refl _, Le.refl _, Le.refl _, Le.refl _, True.intro⟩ ⟨⟨_, rfl, .refl _⟩, ⟨_, rfl, .refl _⟩, ⟨_, rfl, .refl _⟩, ⟨_, rfl, .refl _⟩, ⟨_, rfl, .refl _⟩, True.intro⟩ rfl
        refine Ok.seq ?_
        refine Ok.region Try.tok ?_
        obtain ⟨x5, hx5, hv2⟩ := bindS hv2
        obtain ⟨hc2, hv2⟩ := chk_some hv2
        obtain ⟨hc3, hv2⟩ := chk_some hv2
        obtain ⟨x6, hx6, hv2⟩ := bindS hv2
        obtain ⟨hc4, hv2⟩ := chk_some hv2
        refine ⟨_, rfl, ⟨_, idx_nat hx5, arr_lt hx5 hc2, bif_of (arr_ble hx5) ⟨_, arr_get hx5, (Or.inl ⟨hc3, ⟨_, idx_nat hx6, arr_lt hx6 hc4, bif_of (arr_st hx6) ⟨_, arr_set hx6, ?_⟩⟩⟩)⟩⟩⟩
        refine Ok.wk (Wk.tab (L := [(3, (.b 3 0)), (7, (.o 16)), (8, (.o 84)), (9, (.b 9 0)), (10, (vi s1.1)), (11, (vi s1.2.1)), (12, (.b 12 0)), (22, (.o 16)), (23, (vi ((x3.length : Int)))), (24, (vi s1.2.1))]) (H' := [(3, .box [(.c (.func 27) [] [])]), (16, .own 48 3 (List.map c_span_edge x3)), (84, .own 33 2 (List.map c_api_Span s1.2.2.1)), (9, .box (List.map vi ((s1.2.2.2.set x4.set_.toNat ((x5 + v3)))))), (12, .box [(vi x4.at_), (vi x4.set_), (vb x4.begins_)])]) ⟨Le.refl _, Le.refl _, Le.refl _, Le.refl _, Le.refl _, Le.refl _, Le.refl _, Le.refl _, Le.refl _, Le.refl _, True.intro⟩ ⟨⟨_, rfl, .refl _⟩, ⟨_, rfl, .refl _⟩, ⟨_, rfl, .refl _⟩, ⟨_, rfl, .refl _⟩, ⟨_, rfl, .refl _⟩, True.intro⟩ rfl) ?_
        refine Ok.exit ?_
        refine Ok.seq ?_
        obtain ⟨v4, hv4, hv2⟩ := bindS hv2
        refine Ok.seqw ⟨Cat.tab [(3, (.b 3 0)), (7, (.o 16)), (8, (.o 84)), (9, (.b 9 0)), (10, (vi s1.1)), (12, (.b 12 0)), (22, (.o 16)), (23, (vi ((x3.length : Int)))), (24, (vi s1.2.1)), (55, (vb v4))], [(3, .box [(.c (.func 27) [] [])]), (16, .own 48 3 (List.map c_span_edge x3)), (84, .own 33 2 (List.map c_api_Span s1.2.2.1)), (9, .box (List.map vi ((s1.2.2.2.set x4.set_.toNat ((x5 + v3)))))), (12, .box [(vi x4.at_), (vi x4.set_), (vb x4.begins_)])]⟩ ?_ ?_
        · refine Ok.draw (m := 16) Try.tok Try.mixed (by kernel_rfl) ?_
          obtain ⟨hc5, hv4⟩ := chk_some hv4
          refine ⟨_, rfl, ⟨_, (Or.inl ⟨hc5, rfl⟩), ⟨_, rfl, ⟨_, ⟨_, List.length_map _, fun _ => rfl⟩, ⟨_, rfl, ⟨_, rfl, ?_⟩⟩⟩⟩⟩⟩
          obtain ⟨c1, hg1, hv4⟩ := bindS hv4
          refine Br.ite hg1 (fun hb hg1 => ?_) fun hb hg1 => ?_
          · obtain ⟨hc6, hg1⟩ := chk_some hg1
            obtain ⟨x7, hx7, hg1⟩ := bindS hg1
            refine ⟨_, rfl, ⟨_, rfl, ⟨_, (Or.inl ⟨hc6, rfl⟩), ⟨_, ⟨_, idx_nat hx7, idx_ltm hx7, rfl⟩, ⟨_, rfl, ⟨_, ⟨_, idx_row hx7, rfl, _, rfl, rfl⟩, ⟨_, rfl, ⟨_, ⟨_, rfl, rfl⟩, ⟨_, rfl, ?_⟩⟩⟩⟩⟩⟩⟩⟩⟩
            cases hg1
            refine ⟨_, rfl, ?_⟩
            cases hv4
            exact Wk.tab ⟨Le.refl _, Le.refl _, Le.refl _, Le.refl _, Le.refl _, Le.refl _, Le.refl _, Le.refl _, Le.refl _, Le.refl _, True.intro⟩ ⟨⟨_, rfl, .refl _⟩, ⟨_, rfl, .refl _⟩, ⟨_, rfl, .refl _⟩, ⟨_, rfl, .refl _⟩, ⟨_, rfl, .refl _⟩, True.intro⟩ rfl
          · cases hg1
            refine ⟨_, rfl, ?_⟩
            cases hv4
            exact Wk.tab ⟨Le.refl _, Le.refl _, Le.refl _, Le.refl _, Le.refl _, Le.refl _, Le.refl _, Le.refl _, Le.refl _, Le.refl _, True.intro⟩ ⟨⟨_, rfl, .refl _⟩, ⟨_, rfl, .refl _⟩, ⟨_, rfl, .refl _⟩, ⟨_, rfl, .refl _⟩, ⟨_, rfl, .refl _⟩, True.intro⟩ rfl
        refine Ok.cond (d := 55) (b := v4) rfl hv2 (fun hb hv2 => ?_) fun hb hv2 => ?_
        · refine Ok.exit ?_
          cases hv2
          exact Wk.tab ⟨Le.refl _, Le.refl _, Le.refl _, Le.refl _, Le.refl _, Le.refl _, Le.refl _, Le.refl _, True.intro⟩ ⟨⟨_, rfl, .refl _⟩, ⟨_, rfl, .refl _⟩, ⟨_, rfl, .refl _⟩, ⟨_, rfl, .refl _⟩, True.intro⟩ rfl
        · refine Ok.skip ?_
          refine Ok.seq ?_
          refine Ok.region Try.tok ?_
          obtain ⟨x8, hx8, hv2⟩ := bindS hv2
          obtain ⟨x9, hx9, hv2⟩ := bindS hv2
          obtain ⟨x10, hx10, hv2⟩ := bindS hv2
          refine ⟨_, rfl, ⟨_, idx_nat hx8, arr_lt hx8 (by decide), bif_of (arr_ble hx8) ⟨_, arr_get hx8, ⟨_, idx_nat hx9, arr_lt hx9 (by decide), bif_of (arr_ble hx9) ⟨_, arr_get hx9, ?_⟩⟩⟩⟩⟩
          refine CallOk.call (w_span_Add_1 hx10) (LeL.refl _) ?_
          refine Ok.wk (Wk.tab (L := [(3, (.b 3 0)), (7, (.o 16)), (8, (.o 84)), (9, (.b 9 0)), (10, (vi s1.1)), (12, (.b 12 0)), (14, (vb x10)), (22, (.o 16)), (23, (vi ((x3.length : Int)))), (24, (vi s1.2.1))]) (H' := [(3, .box [(.c (.func 27) [] [])]), (16, .own 48 3 (List.map c_span_edge x3)), (84, .own 33 2 (List.map c_api_Span s1.2.2.1)), (9, .box (List.map vi ((s1.2.2.2.set x4.set_.toNat ((x5 + v3)))))), (12, .box [(vi x4.at_), (vi x4.set_), (vb x4.begins_)])]) ⟨Le.refl _, Le.refl _, Le.refl _, Le.refl _, Le.refl _, Le.refl _, Le.refl _, Le.refl _, Le.refl _, Le.refl _, True.intro⟩ ⟨⟨_, rfl, .refl _⟩, ⟨_, rfl, .refl _⟩, ⟨_, rfl, .refl _⟩, ⟨_, rfl, .refl _⟩, ⟨_, rfl, .refl _⟩, True.intro⟩ rfl) ?_
          obtain ⟨v5, hv5, hv2⟩ := bindS hv2
          refine Ok.seqw ⟨Cat.tab [(3, (.b 3 0)), (7, (.o 16)), (8, (.o 84)), (9, (.b 9 0)), (10, (vi v5)), (12, (.b 12 0)), (14, (vb x10)), (22, (.o 16)), (23, (vi ((x3.length : Int)))), (24, (vi s1.2.1))], [(3, .box [(.c (.func 27) [] [])]), (16, .own 48 3 (List.map c_span_edge x3)), (84, .own 33 2 (List.map c_api_Span s1.2.2.1)), (9, .box (List.map vi ((s1.2.2.2.set x4.set_.toNat ((x5 + v3)))))), (12, .box [(vi x4.at_), (vi x4.set_), (vb x4.begins_)])]⟩ ?_ ?_
          · obtain ⟨v6, hv6, hv5⟩ := bindS hv5
            refine Ok.seqw ⟨Cat.tab [(3, (.b 3 0)), (7, (.o 16)), (8, (.o 84)), (9, (.b 9 0)), (10, (vi s1.1)), (12, (.b 12 0)), (14, (vb x10)), (22, (.o 16)), (23, (vi ((x3.length : Int)))), (24, (vi s1.2.1)), (69, (vb v6))], [(3, .box [(.c (.func 27) [] [])]), (16, .own 48 3 (List.map c_span_edge x3)), (84, .own 33 2 (List.map c_api_Span s1.2.2.1)), (9, .box (List.map vi ((s1.2.2.2.set x4.set_.toNat ((x5 + v3)))))), (12, .box [(vi x4.at_), (vi x4.set_), (vb x4.begins_)])]⟩ ?_ ?_
            · refine Ok.region Try.tok ?_
              obtain ⟨c2, hg2, hv6⟩ := bindS hv6
              refine Br.ite hg2 (fun hb hg2 => ?_) fun hb hg2 => ?_
              · cases hg2
                cases hv6
                exact Wk.tab ⟨Le.refl _, Le.refl _, Le.refl _, Le.refl _, Le.refl _, Le.refl _, Le.refl _, Le.refl _, Le.refl _, Le.refl _, Le.refl _, True.intro⟩ ⟨⟨_, rfl, .refl _⟩, ⟨_, rfl, .refl _⟩, ⟨_, rfl, .refl _⟩, ⟨_, rfl, .refl _⟩, ⟨_, rfl, .refl _⟩, True.intro⟩ rfl
              · cases hg2
                cases hv6
                exact Wk.tab ⟨Le.refl _, Le.refl _, Le.refl _, Le.refl _, Le.refl _, Le.refl _, Le.refl _, Le.refl _, Le.refl _, Le.refl _, Le.refl _, True.intro⟩ ⟨⟨_, rfl, .refl _⟩, ⟨_, rfl, .refl _⟩, ⟨_, rfl, .refl _⟩, ⟨_, rfl, .refl _⟩, ⟨_, rfl, .refl _⟩, True.intro⟩ rfl
            refine Ok.cond (d := 69) (b := v6) rfl hv5 (fun hb hv5 => ?_) fun hb hv5 => ?_
            · refine Ok.region Try.tok ?_
              refine ⟨_, rfl, ?_⟩
              cases hv5
              exact Wk.tab ⟨Le.refl _, Le.refl _, Le.refl _, Le.refl _, Le.refl _, Le.refl _, Le.refl _, Le.refl _, Le.refl _, Le.refl _, True.intro⟩ ⟨⟨_, rfl, .refl _⟩, ⟨_, rfl, .refl _⟩, ⟨_, rfl, .refl _⟩, ⟨_, rfl, .refl _⟩, ⟨_, rfl, .refl _⟩, True.intro⟩ rfl
            · refine Ok.skip ?_
              cases hv5
              exact Wk.tab ⟨Le.refl _, Le.refl _, Le.refl _, Le.refl _, Le.refl _, Le.refl _, Le.refl _, Le.refl _, Le.refl _, Le.refl _, True.intro⟩ ⟨⟨_, rfl, .refl _⟩, ⟨_, rfl, .refl _⟩, ⟨_, rfl, .refl _⟩, ⟨_, rfl, .refl _⟩, ⟨_, rfl, .refl _⟩, True.intro⟩ rfl
          obtain ⟨v7, hv7, hv2⟩ := bindS hv2
          refine Ok.seqw ⟨Cat.tab [(3, (.b 3 0)), (7, (.o 16)), (8, (.o 84)), (9, (.b 9 0)), (10, (vi v5)), (12, (.b 12 0)), (22, (.o 16)), (23, (vi ((x3.length : Int)))), (24, (vi s1.2.1)), (77, (vb v7))], [(3, .box [(.c (.func 27) [] [])]), (16, .own 48 3 (List.map c_span_edge x3)), (84, .own 33 2 (List.map c_api_Span s1.2.2.1)), (9, .box (List.map vi ((s1.2.2.2.set x4.set_.toNat ((x5 + v3)))))), (12, .box [(vi x4.at_), (vi x4.set_), (vb x4.begins_)])]⟩ ?_ ?_
          · refine Ok.region Try.tok ?_
            obtain ⟨c3, hg3, hv7⟩ := bindS hv7
            refine Br.ite hg3 (fun hb hg3 => ?_) fun hb hg3 => ?_
            · cases hg3
              cases hv7
              exact Wk.tab ⟨Le.refl _, Le.refl _, Le.refl _, Le.refl _, Le.refl _, Le.refl _, Le.refl _, Le.refl _, Le.refl _, Le.refl _, True.intro⟩ ⟨⟨_, rfl, .refl _⟩, ⟨_, rfl, .refl _⟩, ⟨_, rfl, .refl _⟩, ⟨_, rfl, .refl _⟩, ⟨_, rfl, .refl _⟩, True.intro⟩ rfl
            · cases hg3
              cases hv7
              exact Wk.tab ⟨Le.refl _, Le.refl _, Le.refl _, Le.refl _, Le.refl _, Le.refl _, Le.refl _, Le.refl _, Le.refl _, Le.refl _, True.intro⟩ ⟨⟨_, rfl, .refl _⟩, ⟨_, rfl, .refl _⟩, ⟨_, rfl, .refl _⟩, ⟨_, rfl, .refl _⟩, ⟨_, rfl, .refl _⟩, True.intro⟩ rfl
          refine Ok.cond (d := 77) (b := v7) rfl hv2 (fun hb hv2 => ?_) fun hb hv2 => ?_
          · refine Ok.seq ?_
            refine Ok.region Try.tok ?_
            obtain ⟨hc7, hv2⟩ := chk_some hv2
            refine ⟨_, rfl, Or.inl ⟨rowsLen_map (f := c_api_Span) (n := 2) (fun _ => rfl) ([(⟨v5, x4.at_⟩ : api_Span)]), app_b2 (f := c_api_Span) (l := s1.2.2.1) (l' := ([(⟨v5, x4.at_⟩ : api_Span)])) hc7, _, (List.map_append (f := c_api_Span) (l₁ := s1.2.2.1) (l₂ := ([(⟨v5, x4.at_⟩ : api_Span)]))).symm, ?_⟩⟩
            refine Ok.wk (Wk.tab (L := [(3, (.b 3 0)), (7, (.o 16)), (8, (.o 84)), (9, (.b 9 0)), (22, (.o 16)), (23, (vi ((x3.length : Int)))), (24, (vi s1.2.1))]) (H' := [(3, .box [(.c (.func 27) [] [])]), (16, .own 48 3 (List.map c_span_edge x3)), (84, .own 33 2 (List.map c_api_Span ((s1.2.2.1 ++ [(⟨v5, x4.at_⟩ : api_Span)])))), (9, .box (List.map vi ((s1.2.2.2.set x4.set_.toNat ((x5 + v3))))))]) ⟨Le.refl _, Le.refl _, Le.refl _, Le.refl _, Le.refl _, Le.refl _, Le.refl _, True.intro⟩ ⟨⟨_, rfl, .refl _⟩, ⟨_, rfl, .refl _⟩, ⟨_, rfl, .refl _⟩, ⟨_, rfl, .arr1 (fun _ _ => rfl)⟩, True.intro⟩ rfl) ?_
            refine Ok.region Try.tok ?_
            cases hv2
            exact Wk.tab ⟨Le.refl _, Le.refl _, Le.refl _, Le.refl _, Le.refl _, Le.refl _, Le.refl _, Le.refl _, True.intro⟩ ⟨⟨_, rfl, .refl _⟩, ⟨_, rfl, .refl _⟩, ⟨_, rfl, .refl _⟩, ⟨_, rfl, .refl _⟩, True.intro⟩ rfl
          · refine Ok.skip ?_
            cases hv2
            exact Wk.tab ⟨Le.refl _, Le.refl _, Le.refl _, Le.refl _, Le.refl _, Le.refl _, Le.refl _, Le.refl _, True.intro⟩ ⟨⟨_, rfl, .refl _⟩, ⟨_, rfl, .refl _⟩, ⟨_, rfl, .refl _⟩, ⟨_, rfl, .refl _⟩, True.intro⟩ rfl
      refine Ok.region Try.tok ?_
      obtain ⟨hc8, hB1⟩ := chk_some hB1
      refine (Or.inl ⟨hc8, ?_⟩)
      exact ⟨_, (Option.some.inj hB1).symm, Wk.tab ⟨Le.refl _, Le.refl _, Le.refl _, Le.refl _, Le.refl _, Le.refl _, Le.refl _, Le.refl _, True.intro⟩ ⟨⟨_, rfl, .refl _⟩, ⟨_, rfl, .refl _⟩, ⟨_, rfl, .refl _⟩, ⟨_, rfl, .refl _⟩, True.intro⟩ rfl⟩
    · refine Ok.exit ?_
      have hB1 := out_ret hB1 hy1
      cases hB1
      exact Wk.tab ⟨Le.refl _, True.intro⟩ ⟨⟨_, rfl, .refl _⟩, True.intro⟩ rfl
  refine Ok.seq ?_
  refine Ok.region Try.tok ?_
  refine Ok.wk (Wk.tab (L := [(6, (.o 84))]) (H' := [(84, .own 33 2 (List.map c_api_Span v1))]) ⟨Le.refl _, True.intro⟩ ⟨⟨_, rfl, .refl _⟩, True.intro⟩ rfl) ?_
  refine Ok.ret ?_
  cases h
  exact (.inr ⟨_, rfl, rfl⟩)
theorem w_span_asked_of__span_Add_1 {p_a : List api_Span} {p_b : List api_Span} {r : (List api_Span)} (h : span_asked_of__span_Add_1 p_a p_b = some r) : Pure Try.prog 28 [(.a [(.c (.func 27) [] [])]), (.s (List.map c_api_Span p_a)), (.s (List.map c_api_Span p_b))] (.s (List.map c_api_Span r)) := (wo_span_asked_of__span_Add_1 h).pure

theorem w_span_Add {p_a : List api_Span} {p_b : List api_Span} {r : (List api_Span)} (h : span_Add p_a p_b = some r) : Pure Try.prog 14 [(.s (List.map c_api_Span p_a)), (.s (List.map c_api_Span p_b))] (.s (List.map c_api_Span r)) := by
  refine pure_of_ok (n := 9) (c := (Try.f14.body.getD .skip)) Try.tok Try.func14 (by kernel_rfl) rfl rfl (Nat.le_of_ble_eq_true rfl) ?_
  unfold span_Add at h
  refine Ok.wk (Wk.tab (L := [(0, (.s (List.map c_api_Span p_a))), (1, (.s (List.map c_api_Span p_b)))]) (H' := []) ⟨Le.refl _, Le.refl _, True.intro⟩ True.intro rfl) ?_
  refine Ok.seq ?_
  refine Ok.region Try.tok ?_
  refine Ok.wk (Wk.tab (L := [(0, (.s (List.map c_api_Span p_a))), (1, (.s (List.map c_api_Span p_b)))]) (H' := []) ⟨Le.refl _, Le.refl _, True.intro⟩ True.intro rfl) ?_
  refine Ok.seq ?_
  refine Ok.region Try.tok ?_
  obtain ⟨x1, hx1, h⟩ := bindS h
  refine CallOk.call (w_span_asked_of__span_Add_1 hx1) (LeL.refl _) ?_
  refine Ok.wk (Wk.tab (L := [(4, (.s (List.map c_api_Span x1)))]) (H' := []) ⟨Le.refl _, True.intro⟩ True.intro rfl) ?_
  refine Ok.ret ?_
  cases h
  exact Fz.s

theorem w_span_Norm {p_l : List api_Span} {r : (List api_Span)} (h : span_Norm p_l = some r) : Pure Try.prog 12 [(.s (List.map c_api_Span p_l))] (.s (List.map c_api_Span r)) := by
  refine pure_of_ok (n := 5) (c := (Try.f12.body.getD .skip)) Try.tok Try.func12 (by kernel_rfl) rfl rfl (Nat.le_of_ble_eq_true rfl) ?_
  unfold span_Norm at h
  refine Ok.wk (Wk.tab (L := [(0, (.s (List.map c_api_Span p_l)))]) (H' := []) ⟨Le.refl _, True.intro⟩ True.intro rfl) ?_
  refine Ok.seq ?_
  refine Ok.region Try.tok ?_
  refine Ok.wk (Wk.tab (L := [(0, (.s (List.map c_api_Span p_l)))]) (H' := []) ⟨Le.refl _, True.intro⟩ True.intro rfl) ?_
  refine Ok.seq ?_
  refine Ok.region Try.tok ?_
  obtain ⟨x1, hx1, h⟩ := bindS h
  refine CallOk.call (w_span_Add hx1) (.cons (Le.refl _) (.cons (Le.nil) (.nil))) ?_
  refine Ok.wk (Wk.tab (L := [(2, (.s (List.map c_api_Span x1)))]) (H' := []) ⟨Le.refl _, True.intro⟩ True.intro rfl) ?_
  refine Ok.ret ?_
  cases h
  exact Fz.s

theorem w_ref21_Same {p_a : List api_Span} {p_b : List api_Span} {r : Bool} (h : ref21_Same p_a p_b = some r) : Pure Try.prog 11 [(.s (List.map c_api_Span p_a)), (.s (List.map c_api_Span p_b))] (vb r) := by
  refine pure_of_ok (n := 26) (c := (Try.f11.body.getD .skip)) Try.tok Try.func11 (by kernel_rfl) rfl rfl (Nat.le_of_ble_eq_true rfl) ?_
  unfold ref21_Same at h
  refine Ok.wk (Wk.tab (L := [(0, (.s (List.map c_api_Span p_a))), (1, (.s (List.map c_api_Span p_b)))]) (H' := []) ⟨Le.refl _, Le.refl _, True.intro⟩ True.intro rfl) ?_
  refine Ok.seq ?_
  refine Ok.region Try.tok ?_
  refine Ok.wk (Wk.tab (L := [(0, (.s (List.map c_api_Span p_a))), (1, (.s (List.map c_api_Span p_b)))]) (H' := []) ⟨Le.refl _, Le.refl _, True.intro⟩ True.intro rfl) ?_
  refine Ok.seq ?_
  refine Ok.seq ?_
  refine Ok.region Try.tok ?_
  refine ⟨_, List.length_map _, fun _ => ⟨_, List.length_map _, fun _ => ?_⟩⟩
  refine Ok.wk (Wk.tab (L := [(0, (.s (List.map c_api_Span p_a))), (1, (.s (List.map c_api_Span p_b))), (10, (vb (((p_a.length : Int) != (p_b.length : Int)))))]) (H' := []) ⟨Le.refl _, Le.refl _, Le.refl _, True.intro⟩ True.intro rfl) ?_
  refine Ok.cond (d := 10) (b := ((p_a.length : Int) != (p_b.length : Int))) rfl h (fun hb h => ?_) fun hb h => ?_
  · refine Ok.seq ?_
    refine Ok.region Try.tok ?_
    refine Ok.wk (Wk.tab (L := [(4, (vb false))]) (H' := []) ⟨Le.refl _, True.intro⟩ True.intro rfl) ?_
    refine Ok.ret ?_
    cases h
    exact Fz.v
  · refine Ok.skip ?_
    refine Ok.seqj (fun v1 => ⟨Cat.tab [], []⟩) (fun v1 => ref21_Same_J1 v1 = some r) ?_ ?_
    · refine Ok.seq ?_
      refine Ok.region Try.tok ?_
      refine Ok.wk (Wk.tab (L := [(0, (.s (List.map c_api_Span p_a))), (1, (.s (List.map c_api_Span p_b))), (5, (vi (0)))]) (H' := []) ⟨Le.refl _, Le.refl _, Le.refl _, True.intro⟩ True.intro rfl) ?_
      refine Ok.block ?_
      refine Ok.loop (fun s1 => ⟨Cat.tab [(0, (.s (List.map c_api_Span p_a))), (1, (.s (List.map c_api_Span p_b))), (5, (vi s1))], []⟩) (ref21_Same_B1 p_a p_b) (s0 := 0) h (Wk.tab ⟨Le.refl _, Le.refl _, Le.refl _, True.intro⟩ True.intro rfl) ?_
      intro s1 y1 hB1 hy1
      unfold ref21_Same_B1 at hB1
      refine Ok.seq ?_
      refine Ok.seq ?_
      refine Ok.region Try.tok ?_
      refine ⟨_, List.length_map _, fun _ => ?_⟩
      refine Ok.wk (Wk.tab (L := [(0, (.s (List.map c_api_Span p_a))), (1, (.s (List.map c_api_Span p_b))), (5, (vi s1)), (14, (vb ((decide (s1 < (p_a.length : Int))))))]) (H' := []) ⟨Le.refl _, Le.refl _, Le.refl _, Le.refl _, True.intro⟩ True.intro rfl) ?_
      refine Ok.cond (d := 14) (b := (decide (s1 < (p_a.length : Int)))) rfl hB1 (fun hb hB1 => ?_) fun hb hB1 => ?_
      · refine Ok.skip ?_
        refine Ok.seq ?_
        refine Ok.block ?_
        refine Ok.seq ?_
        refine Ok.draw (m := 9) Try.tok Try.mixed (by kernel_rfl) ?_
        obtain ⟨x1, hx1, hB1⟩ := bindS hB1
        obtain ⟨x2, hx2, hB1⟩ := bindS hB1
        refine ⟨_, rfl, ⟨_, rfl, ⟨_, ⟨_, idx_nat hx1, _, idx_row hx1, rfl⟩, ⟨_, ⟨_, rfl, rfl⟩, ⟨_, rfl, ⟨_, rfl, ⟨_, ⟨_, idx_nat hx2, _, idx_row hx2, rfl⟩, ⟨_, ⟨_, rfl, rfl⟩, ⟨_, ⟨[.int .i64, .int .i64], by kernel_rfl, rfl⟩, ?_⟩⟩⟩⟩⟩⟩⟩⟩⟩
        refine Ok.wk (Wk.tab (L := [(0, (.s (List.map c_api_Span p_a))), (1, (.s (List.map c_api_Span p_b))), (5, (vi s1)), (25, (vb ((!(x1.From == x2.From && (x1.To == x2.To && true))))))]) (H' := []) ⟨Le.refl _, Le.refl _, Le.refl _, Le.refl _, True.intro⟩ True.intro rfl) ?_
        refine Ok.cond (d := 25) (b := (!(x1.From == x2.From && (x1.To == x2.To && true)))) rfl hB1 (fun hb hB1 => ?_) fun hb hB1 => ?_
        · refine Ok.seq ?_
          refine Ok.region Try.tok ?_
          refine Ok.wk (Wk.tab (L := [(4, (vb false))]) (H' := []) ⟨Le.refl _, True.intro⟩ True.intro rfl) ?_
          refine Ok.ret ?_
          have hB1 := out_ret hB1 hy1
          cases hB1
          exact Fz.v
        · refine Ok.skip ?_
          refine Ok.region Try.tok ?_
          obtain ⟨hc1, hB1⟩ := chk_some hB1
          refine (Or.inl ⟨hc1, ?_⟩)
          exact ⟨_, (Option.some.inj hB1).symm, Wk.tab ⟨Le.refl _, Le.refl _, Le.refl _, True.intro⟩ True.intro rfl⟩
      · refine Ok.exit ?_
        have hB1 := out_ret hB1 hy1
        exact ⟨_, hB1, Wk.tab True.intro True.intro rfl⟩
    intro v1 h
    unfold ref21_Same_J1 at h
    refine Ok.seq ?_
    refine Ok.region Try.tok ?_
    refine Ok.wk (Wk.tab (L := [(4, (vb true))]) (H' := []) ⟨Le.refl _, True.intro⟩ True.intro rfl) ?_
    refine Ok.ret ?_
    cases h
    exact Fz.v

theorem w_span_Cut_1 {p_x : Bool} {p_y : Bool} {r : Bool} (h : span_Cut_1 p_x p_y = some r) : Pure Try.prog 29 [(vb p_x), (vb p_y)] (vb r) := by
  refine pure_of_ok (n := 10) (c := (Try.f29.body.getD .skip)) Try.tok Try.func29 (by kernel_rfl) rfl rfl (Nat.le_of_ble_eq_true rfl) ?_
  unfold span_Cut_1 at h
  refine Ok.wk (Wk.tab (L := [(0, (vb p_x)), (1, (vb p_y))]) (H' := []) ⟨Le.refl _, Le.refl _, True.intro⟩ True.intro rfl) ?_
  refine Ok.seq ?_
  refine Ok.region Try.tok ?_
  refine Ok.wk (Wk.tab (L := [(0, (vb p_x)), (1, (vb p_y))]) (H' := []) ⟨Le.refl _, Le.refl _, True.intro⟩ True.intro rfl) ?_
  obtain ⟨v1, hv1, h⟩ := bindS h
  refine Ok.seqw ⟨Cat.tab [(4, (vb v1))], []⟩ ?_ ?_
  · refine Ok.region Try.tok ?_
    obtain ⟨c1, hg1, hv1⟩ := bindS hv1
    refine Br.ite hg1 (fun hb hg1 => ?_) fun hb hg1 => ?_
    · cases hg1
      cases hv1
      exact Wk.tab ⟨Le.refl _, True.intro⟩ True.intro rfl
    · cases hg1
      cases hv1
      exact Wk.tab ⟨Le.refl _, True.intro⟩ True.intro rfl
  refine Ok.ret ?_
  cases h
  exact Fz.v

theorem wo_span_asked_of__span_Cut_1 {p_a : List api_Span} {p_b : List api_Span} {r : (List api_Span)} (h : span_asked_of__span_Cut_1 p_a p_b = some r) : POwn Try.prog 28 [(.a [(.c (.func 29) [] [])]), (.s (List.map c_api_Span p_a)), (.s (List.map c_api_Span p_b))] 33 2 (List.map c_api_Span r) := by
  refine pown_of_ok (n := 87) (c := (Try.f28.body.getD .skip)) Try.tok Try.func28 (by kernel_rfl) rfl rfl (Nat.le_of_ble_eq_true rfl) ?_
  unfold span_asked_of__span_Cut_1 at h
  refine Ok.wk (Wk.tab (L := [(0, (.a [(.c (.func 29) [] [])])), (1, (.s (List.map c_api_Span p_a))), (2, (.s (List.map c_api_Span p_b)))]) (H' := []) ⟨Le.refl _, Le.refl _, Le.refl _, True.intro⟩ True.intro rfl) ?_
  refine Ok.seq ?_
  refine Ok.region Try.tok ?_
  refine Ok.wk (Wk.tab (L := [(1, (.s (List.map c_api_Span p_a))), (2, (.s (List.map c_api_Span p_b))), (3, (.b 3 0))]) (H' := [(3, .box [(.c (.func 29) [] [])])]) ⟨Le.refl _, Le.refl _, Le.refl _, True.intro⟩ ⟨⟨_, rfl, .refl _⟩, True.intro⟩ rfl) ?_
  refine Ok.seq ?_
  refine Ok.region Try.tok ?_
  obtain ⟨x1, hx1, h⟩ := bindS h
  refine CallOk.own (D := 16) (wo_span_edges hx1) (LeL.refl _) rfl ?_
  obtain ⟨x2, hx2, h⟩ := bindS h
  refine CallOk.call (w_span_edges hx2) (LeL.refl _) ?_
  obtain ⟨hc1, h⟩ := chk_some h
  refine ⟨rowsLen_map (f := c_span_edge) (n := 3) (fun _ => rfl) x2, app_b2 (f := c_span_edge) (l := x1) (l' := x2) hc1, _, (List.map_append (f := c_span_edge) (l₁ := x1) (l₂ := x2)).symm, ?_⟩
  refine Ok.wk (Wk.tab (L := [(3, (.b 3 0)), (7, (.o 16))]) (H' := [(3, .box [(.c (.func 29) [] [])]), (16, .own 48 3 (List.map c_span_edge ((x1 ++ x2))))]) ⟨Le.refl _, Le.refl _, True.intro⟩ ⟨⟨_, rfl, .refl _⟩, ⟨_, rfl, .refl _⟩, True.intro⟩ rfl) ?_
  refine Ok.seq ?_
  refine Ok.region Try.tok ?_
  obtain ⟨x3, hx3, h⟩ := bindS h
  refine CallOk.chgLe (id := 16) (pchg_sortF (E := 48) (enc := c_span_edge) Try.says36 Try.enters36 (fun _ => rfl) (fun _ => rfl) (fun _ _ _ h => w_span_asked_of_1 h) (enters_of Try.func37 (by kernel_rfl) rfl) hx3) rfl (.refl _) rfl (.cons Lr.o (.cons (Lr.imm rfl) .nil)) ?_
  rintro _ _ ⟨rfl, rfl⟩
  refine Ok.wk (Wk.tab (L := [(3, (.b 3 0)), (7, (.o 16))]) (H' := [(3, .box [(.c (.func 29) [] [])]), (16, .own 48 3 (List.map c_span_edge x3))]) ⟨Le.refl _, Le.refl _, True.intro⟩ ⟨⟨_, rfl, .refl _⟩, ⟨_, rfl, .refl _⟩, True.intro⟩ rfl) ?_
  refine Ok.seq ?_
  refine Ok.region Try.tok ?_
  refine Ok.wk (Wk.tab (L := [(3, (.b 3 0)), (7, (.o 16)), (8, (.v (.slice none 0 0)))]) (H' := [(3, .box [(.c (.func 29) [] [])]), (16, .own 48 3 (List.map c_span_edge x3))]) ⟨Le.refl _, Le.refl _, Le.refl _, True.intro⟩ ⟨⟨_, rfl, .refl _⟩, ⟨_, rfl, .refl _⟩, True.intro⟩ rfl) ?_
  refine Ok.seq ?_
  refine Ok.region Try.tok ?_
  refine Ok.wk (Wk.tab (L := [(3, (.b 3 0)), (7, (.o 16)), (8, (.v (.slice none 0 0))), (9, (.b 9 0))]) (H' := [(3, .box [(.c (.func 29) [] [])]), (16, .own 48 3 (List.map c_span_edge x3)), (9, .box (List.map vi ((List.replicate 2 0))))]) ⟨Le.refl _, Le.refl _, Le.refl _, Le.refl _, True.intro⟩ ⟨⟨_, rfl, .refl _⟩, ⟨_, rfl, .refl _⟩, ⟨_, rfl, .refl _⟩, True.intro⟩ rfl) ?_
  refine Ok.seq ?_
  refine Ok.region Try.tok ?_
  refine Ok.wk (Wk.tab (L := [(3, (.b 3 0)), (7, (.o 16)), (8, (.v (.slice none 0 0))), (9, (.b 9 0)), (10, (vi ((-1))))]) (H' := [(3, .box [(.c (.func 29) [] [])]), (16, .own 48 3 (List.map c_span_edge x3)), (9, .box (List.map vi ((List.replicate 2 0))))]) ⟨Le.refl _, Le.refl _, Le.refl _, Le.refl _, Le.refl _, True.intro⟩ ⟨⟨_, rfl, .refl _⟩, ⟨_, rfl, .refl _⟩, ⟨_, rfl, .refl _⟩, True.intro⟩ rfl) ?_
  obtain ⟨v1, hv1, h⟩ := bindS h
  refine Ok.seqw ⟨Cat.tab [(8, (.o 84))], [(84, .own 33 2 (List.map c_api_Span v1))]⟩ ?_ ?_
  · refine Ok.seq ?_
    refine Ok.region Try.tok ?_
    refine ⟨_, List.length_map _, fun _ => ?_⟩
    refine Ok.wk (Wk.tab (L := [(3, (.b 3 0)), (7, (.o 16)), (8, (.v (.slice none 0 0))), (9, (.b 9 0)), (10, (vi ((-1)))), (22, (.o 16)), (23, (vi ((x3.length : Int)))), (24, (vi (0)))]) (H' := [(3, .box [(.c (.func 29) [] [])]), (16, .own 48 3 (List.map c_span_edge x3)), (9, .box (List.map vi ((List.replicate 2 0))))]) ⟨Le.refl _, Le.refl _, Le.refl _, Le.refl _, Le.refl _, Le.refl _, Le.refl _, Le.refl _, True.intro⟩ ⟨⟨_, rfl, .refl _⟩, ⟨_, rfl, .refl _⟩, ⟨_, rfl, .refl _⟩, True.intro⟩ rfl) ?_
    refine Ok.block ?_
    refine Ok.loop (fun s1 => ⟨Cat.tab [(3, (.b 3 0)), (7, (.o 16)), (8, (.o 84)), (9, (.b 9 0)), (10, (vi s1.1)), (22, (.o 16)), (23, (vi ((x3.length : Int)))), (24, (vi s1.2.1))], [(3, .box [(.c (.func 29) [] [])]), (16, .own 48 3 (List.map c_span_edge x3)), (84, .own 33 2 (List.map c_api_Span s1.2.2.1)), (9, .box (List.map vi s1.2.2.2))]⟩) (span_asked_of__span_Cut_1_B1 x3) (s0 := ((-1), 0, [], (List.replicate 2 0))) hv1 ((Wk.own0 (t := 8) (id := 84) (E := 33) (K := 2) rfl rfl).trans (Wk.tab ⟨Le.refl _, Le.refl _, Le.refl _, Le.refl _, Le.refl _, Le.refl _, Le.refl _, Le.refl _, True.intro⟩ ⟨⟨_, rfl, .refl _⟩, ⟨_, rfl, .refl _⟩, ⟨_, rfl, .refl _⟩, ⟨_, rfl, .arr1 (fun _ _ => rfl)⟩, True.intro⟩ rfl)) ?_
    intro s1 y1 hB1 hy1
    unfold span_asked_of__span_Cut_1_B1 at hB1
    refine Ok.seq ?_
    refine Ok.region Try.tok ?_
    refine Ok.wk (Wk.tab (L := [(3, (.b 3 0)), (7, (.o 16)), (8, (.o 84)), (9, (.b 9 0)), (10, (vi s1.1)), (22, (.o 16)), (23, (vi ((x3.length : Int)))), (24, (vi s1.2.1)), (25, (vb ((decide (s1.2.1 < (x3.length : Int))))))]) (H' := [(3, .box [(.c (.func 29) [] [])]), (16, .own 48 3 (List.map c_span_edge x3)), (84, .own 33 2 (List.map c_api_Span s1.2.2.1)), (9, .box (List.map vi s1.2.2.2))]) ⟨Le.refl _, Le.refl _, Le.refl _, Le.refl _, Le.refl _, Le.refl _, Le.refl _, Le.refl _, Le.refl _, True.intro⟩ ⟨⟨_, rfl, .refl _⟩, ⟨_, rfl, .refl _⟩, ⟨_, rfl, .refl _⟩, ⟨_, rfl, .refl _⟩, True.intro⟩ rfl) ?_
    refine Ok.seq ?_
    refine Ok.cond (d := 25) (b := (decide (s1.2.1 < (x3.length : Int)))) rfl hB1 (fun hb hB1 => ?_) fun hb hB1 => ?_
    · refine Ok.skip ?_
      obtain ⟨v2, hv2, hB1⟩ := bindS hB1
      refine Ok.seqw ⟨Cat.tab [(3, (.b 3 0)), (7, (.o 16)), (8, (.o 84)), (9, (.b 9 0)), (10, (vi v2.1)), (22, (.o 16)), (23, (vi ((x3.length : Int)))), (24, (vi s1.2.1))], [(3, .box [(.c (.func 29) [] [])]), (16, .own 48 3 (List.map c_span_edge x3)), (84, .own 33 2 (List.map c_api_Span v2.2.1)), (9, .box (List.map vi v2.2.2))]⟩ ?_ ?_
      · refine Ok.block ?_
        refine Ok.seq ?_
        refine Ok.region Try.tok ?_
        obtain ⟨x4, hx4, hv2⟩ := bindS hv2
        refine ⟨_, idx_nat hx4, idx_ltm hx4, ⟨_, idx_row hx4, rfl, _, rfl, ⟨_, rfl, ?_⟩⟩⟩
        refine Ok.wk (Wk.tab (L := [(3, (.b 3 0)), (7, (.o 16)), (8, (.o 84)), (9, (.b 9 0)), (10, (vi s1.1)), (11, (vi s1.2.1)), (12, (.b 12 0)), (22, (.o 16)), (23, (vi ((x3.length : Int)))), (24, (vi s1.2.1))]) (H' := [(3, .box [(.c (.func 29) [] [])]), (16, .own 48 3 (List.map c_span_edge x3)), (84, .own 33 2 (List.map c_api_Span s1.2.2.1)), (9, .box (List.map vi s1.2.2.2)), (12, .box [(vi x4.at_), (vi x4.set_), (vb x4.begins_)])]) ⟨Le.refl _, Le.refl _, Le.refl _, Le.refl _, Le.refl _, Le.refl _, Le.refl _, Le.refl _, Le.refl _, Le.refl _, True.intro⟩ ⟨⟨_, rfl, .refl _⟩, ⟨_, rfl, .refl _⟩, ⟨_, rfl, .refl _⟩, ⟨_, rfl, .arr1 (fun _ _ => rfl)⟩, ⟨_, rfl, .refl _⟩, True.intro⟩ rfl) ?_
        refine Ok.seq ?_
        refine Ok.region Try.tok ?_
        refine Ok.wk (Wk.tab (L := [(3, (.b 3 0)), (7, (.o 16)), (8, (.o 84)), (9, (.b 9 0)), (10, (vi s1.1)), (11, (vi s1.2.1)), (12, (.b 12 0)), (13, (vi (1))), (22, (.o 16)), (23, (vi ((x3.length : Int)))), (24, (vi s1.2.1))]) (H' := [(3, .box [(.c (.func 29) [] [])]), (16, .own 48 3 (List.map c_span_edge x3)), (84, .own 33 2 (List.map c_api_Span s1.2.2.1)), (9, .box (List.map vi s1.2.2.2)), (12, .box [(vi x4.at_), (vi x4.set_), (vb x4.begins_)])]) ⟨Le.refl _, Le.refl _, Le.refl _, Le.refl _, Le.refl _, Le.refl _, Le.refl _, Le.refl _, Le.refl _, Le.refl _, Le.refl _, True.intro⟩ ⟨⟨_, rfl, .refl _⟩, ⟨_, rfl, .refl _⟩, ⟨_, rfl, .refl _⟩, ⟨_, rfl, .refl _⟩, ⟨_, rfl, .refl _⟩, True.intro⟩ rfl) ?_
        refine Ok.seq ?_
        refine Ok.block ?_
        obtain ⟨v3, hv3, hv2⟩ := bindS hv2
        refine Ok.seqw ⟨Cat.tab [(3, (.b 3 0)), (7, (.o 16)), (8, (.o 84)), (9, (.b 9 0)), (10, (vi s1.1)), (11, (vi s1.2.1)), (12, (.b 12 0)), (13, (vi v3)), (22, (.o 16)), (23, (vi ((x3.length : Int)))), (24, (vi s1.2.1))], [(3, .box [(.c (.func 29) [] [])]), (16, .own 48 3 (List.map c_span_edge x3)), (84, .own 33 2 (List.map c_api_Span s1.2.2.1)), (9, .box (List.map vi s1.2.2.2)), (12, .box [(vi x4.at_), (vi x4.set_), (vb x4.begins_)])]⟩ ?_ ?_
        · refine Ok.block ?_
          refine Ok.seq ?_
          refine Ok.block ?_
          refine Ok.seq ?_
          refine Ok.seq ?_
          refine Ok.region Try.tok ?_
          refine ⟨_, rfl, ?_⟩
          refine Ok.wk (Wk.tab (L := [(3, (.b 3 0)), (7, (.o 16)), (8, (.o 84)), (9, (.b 9 0)), (10, (vi s1.1)), (11, (vi s1.2.1)), (12, (.b 12 0)), (13, (vi (1))), (22, (.o 16)), (23, (vi ((x3.length : Int)))), (24, (vi s1.2.1)), (29, (vb ((!x4.begins_))))]) (H' := [(3, .box [(.c (.func 29) [] [])]), (16, .own 48 3 (List.map c_span_edge x3)), (84, .own 33 2 (List.map c_api_Span s1.2.2.1)), (9, .box (List.map vi s1.2.2.2)), (12, .box [(vi x4.at_), (vi x4.set_), (vb x4.begins_)])]) ⟨Le.refl _, Le.refl _, Le.refl _, Le.refl _, Le.refl _, Le.refl _, Le.refl _, Le.refl _, Le.refl _, Le.refl _, Le.refl _, Le.refl _, True.intro⟩ ⟨⟨_, rfl, .refl _⟩, ⟨_, rfl, .refl _⟩, ⟨_, rfl, .refl _⟩, ⟨_, rfl, .refl _⟩, ⟨_, rfl, .refl _⟩, True.intro⟩ rfl) ?_
          refine Ok.cond (d := 29) (b := (!x4.begins_)) rfl hv3 (fun hb hv3 => ?_) fun hb hv3 => ?_
          · refine Ok.exit ?_
            refine Ok.region Try.tok ?_
            cases hv3
            exact Wk.tab ⟨Le.refl _, Le.refl _, Le.refl _, Le.refl _, Le.refl _, Le.refl _, Le.refl _, Le.refl _, Le.refl _, Le.refl _, Le.refl _, True.intro⟩ ⟨⟨_, rfl, .refl _⟩, ⟨_, rfl, .refl _⟩, ⟨_, rfl, .refl _⟩, ⟨_, rfl, .refl _⟩, ⟨_, rfl, .refl _⟩, True.intro⟩ rfl
          · refine Ok.skip ?_
            refine Ok.exit ?_
            cases hv3
            exact Wk.tab ⟨Le.refl _, Le.refl _, Le.refl _, Le.refl _, Le.refl _, Le.refl _, Le.refl _, Le.refl _, Le.refl _, Le.refl _, Le.refl _, True.intro⟩ ⟨⟨_, rfl, .refl _⟩, ⟨_, rfl, .refl _⟩, ⟨_, rfl, .refl _⟩, ⟨_, rfl, .refl _⟩, ⟨_, rfl, .refl _⟩, True.intro⟩ rfl
        refine Ok.seq ?_
        refine Ok.region Try.tok ?_
        obtain ⟨x5, hx5, hv2⟩ := bindS hv2
        obtain ⟨hc2, hv2⟩ := chk_some hv2
        obtain ⟨hc3, hv2⟩ := chk_some hv2
        obtain ⟨x6, hx6, hv2⟩ := bindS hv2
        obtain ⟨hc4, hv2⟩ := chk_some hv2
        refine ⟨_, rfl, ⟨_, idx_nat hx5, arr_lt hx5 hc2, bif_of (arr_ble hx5) ⟨_, arr_get hx5, (Or.inl ⟨hc3, ⟨_, idx_nat hx6, arr_lt hx6 hc4, bif_of (arr_st hx6) ⟨_, arr_set hx6, ?_⟩⟩⟩)⟩⟩⟩
        refine Ok.wk (Wk.tab (L := [(3, (.b 3 0)), (7, (.o 16)), (8, (.o 84)), (9, (.b 9 0)), (10, (vi s1.1)), (11, (vi s1.2.1)), (12, (.b 12 0)), (22, (.o 16)), (23, (vi ((x3.length : Int)))), (24, (vi s1.2.1))]) (H' := [(3, .box [(.c (.func 29) [] [])]), (16, .own 48 3 (List.map c_span_edge x3)), (84, .own 33 2 (List.map c_api_Span s1.2.2.1)), (9, .box (List.map vi ((s1.2.2.2.set x4.set_.toNat ((x5 + v3)))))), (12, .box [(vi x4.at_), (vi x4.set_), (vb x4.begins_)])]) ⟨Le.refl _, Le.refl _, Le.refl _, Le.refl _, Le.refl _, Le.refl _, Le.refl _, Le.refl _, Le.refl _, Le.refl _, True.intro⟩ ⟨⟨_, rfl, .refl _⟩, ⟨_, rfl, .refl _⟩, ⟨_, rfl, .refl _⟩, ⟨_, rfl, .refl _⟩, ⟨_, rfl, .refl _⟩, True.intro⟩ rfl) ?_
        refine Ok.exit ?_
        refine Ok.seq ?_
        obtain ⟨v4, hv4, hv2⟩ := bindS hv2
        refine Ok.seqw ⟨Cat.tab [(3, (.b 3 0)), (7, (.o 16)), (8, (.o 84)), (9, (.b 9 0)), (10, (vi s1.1)), (12, (.b 12 0)), (22, (.o 16)), (23, (vi ((x3.length : Int)))), (24, (vi s1.2.1)), (55, (vb v4))], [(3, .box [(.c (.func 29) [] [])]), (16, .own 48 3 (List.map c_span_edge x3)), (84, .own 33 2 (List.map c_api_Span s1.2.2.1)), (9, .box (List.map vi ((s1.2.2.2.set x4.set_.toNat ((x5 + v3)))))), (12, .box [(vi x4.at_), (vi x4.set_), (vb x4.begins_)])]⟩ ?_ ?_
        · refine Ok.draw (m := 16) Try.tok Try.mixed (by kernel_rfl) ?_
          obtain ⟨hc5, hv4⟩ := chk_some hv4
          refine ⟨_, rfl, ⟨_, (Or.inl ⟨hc5, rfl⟩), ⟨_, rfl, ⟨_, ⟨_, List.length_map _, fun _ => rfl⟩, ⟨_, rfl, ⟨_, rfl, ?_⟩⟩⟩⟩⟩⟩
          obtain ⟨c1, hg1, hv4⟩ := bindS hv4
          refine Br.ite hg1 (fun hb hg1 => ?_) fun hb hg1 => ?_
          · obtain ⟨hc6, hg1⟩ := chk_some hg1
            obtain ⟨x7, hx7, hg1⟩ := bindS hg1
            refine ⟨_, rfl, ⟨_, rfl, ⟨_, (Or.inl ⟨hc6, rfl⟩), ⟨_, ⟨_, idx_nat hx7, idx_ltm hx7, rfl⟩, ⟨_, rfl, ⟨_, ⟨_, idx_row hx7, rfl, _, rfl, rfl⟩, ⟨_, rfl, ⟨_, ⟨_, rfl, rfl⟩, ⟨_, rfl, ?_⟩⟩⟩⟩⟩⟩⟩⟩⟩
            cases hg1
            refine ⟨_, rfl, ?_⟩
            cases hv4
            exact Wk.tab ⟨Le.refl _, Le.refl _, Le.refl _, Le.refl _, Le.refl _, Le.refl _, Le.refl _, Le.refl _, Le.refl _, Le.refl _, True.intro⟩ ⟨⟨_, rfl, .refl _⟩, ⟨_, rfl, .refl _⟩, ⟨_, rfl, .refl _⟩, ⟨_, rfl, .refl _⟩, ⟨_, rfl, .refl _⟩, True.intro⟩ rfl
          · cases hg1
            refine ⟨_, rfl, ?_⟩
            cases hv4
            exact Wk.tab ⟨Le.refl _, Le.refl _, Le.refl _, Le.refl _, Le.refl _, Le.refl _, Le.refl _, Le.refl _, Le.refl _, Le.refl _, True.intro⟩ ⟨⟨_, rfl, .refl _⟩, ⟨_, rfl, .refl _⟩, ⟨_, rfl, .refl _⟩, ⟨_, rfl, .refl _⟩, ⟨_, rfl, .refl _⟩, True.intro⟩ rfl
        refine Ok.cond (d := 55) (b := v4) rfl hv2 (fun hb hv2 => ?_) fun hb hv2 => ?_
        · refine Ok.exit ?_
          cases hv2
          exact Wk.tab ⟨Le.refl _, Le.refl _, Le.refl _, Le.refl _, Le.refl _, Le.refl _, Le.refl _, Le.refl _, True.intro⟩ ⟨⟨_, rfl, .refl _⟩, ⟨_, rfl, .refl _⟩, ⟨_, rfl, .refl _⟩, ⟨_, rfl, .refl _⟩, True.intro⟩ rfl
        · refine Ok.skip ?_
          refine Ok.seq ?_
          refine Ok.region Try.tok ?_
          obtain ⟨x8, hx8, hv2⟩ := bindS hv2
          obtain ⟨x9, hx9, hv2⟩ := bindS hv2
          obtain ⟨x10, hx10, hv2⟩ := bindS hv2
          refine ⟨_, rfl, ⟨_, idx_nat hx8, arr_lt hx8 (by decide), bif_of (arr_ble hx8) ⟨_, arr_get hx8, ⟨_, idx_nat hx9, arr_lt hx9 (by decide), bif_of (arr_ble hx9) ⟨_, arr_get hx9, ?_⟩⟩⟩⟩⟩
          refine CallOk.call (w_span_Cut_1 hx10) (LeL.refl _) ?_
          refine Ok.wk (Wk.tab (L := [(3, (.b 3 0)), (7, (.o 16)), (8, (.o 84)), (9, (.b 9 0)), (10, (vi s1.1)), (12, (.b 12 0)), (14, (vb x10)), (22, (.o 16)), (23, (vi ((x3.length : Int)))), (24, (vi s1.2.1))]) (H' := [(3, .box [(.c (.func 29) [] [])]), (16, .own 48 3 (List.map c_span_edge x3)), (84, .own 33 2 (List.map c_api_Span s1.2.2.1)), (9, .box (List.map vi ((s1.2.2.2.set x4.set_.toNat ((x5 + v3)))))), (12, .box [(vi x4.at_), (vi x4.set_), (vb x4.begins_)])]) ⟨Le.refl _, Le.refl _, Le.refl _, Le.refl _, Le.refl _, Le.refl _, Le.refl _, Le.refl _, Le.refl _, Le.refl _, True.intro⟩ ⟨⟨_, rfl, .refl _⟩, ⟨_, rfl, .refl _⟩, ⟨_, rfl, .refl _⟩, ⟨_, rfl, .refl _⟩, ⟨_, rfl, .refl _⟩, True.intro⟩ rfl) ?_
          obtain ⟨v5, hv5, hv2⟩ := bindS hv2
          refine Ok.seqw ⟨Cat.tab [(3, (.b 3 0)), (7, (.o 16)), (8, (.o 84)), (9, (.b 9 0)), (10, (vi v5)), (12, (.b 12 0)), (14, (vb x10)), (22, (.o 16)), (23, (vi ((x3.length : Int)))), (24, (vi s1.2.1))], [(3, .box [(.c (.func 29) [] [])]), (16, .own 48 3 (List.map c_span_edge x3)), (84, .own 33 2 (List.map c_api_Span s1.2.2.1)), (9, .box (List.map vi ((s1.2.2.2.set x4.set_.toNat ((x5 + v3)))))), (12, .box [(vi x4.at_), (vi x4.set_), (vb x4.begins_)])]⟩ ?_ ?_
          · obtain ⟨v6, hv6, hv5⟩ := bindS hv5
            refine Ok.seqw ⟨Cat.tab [(3, (.b 3 0)), (7, (.o 16)), (8, (.o 84)), (9, (.b 9 0)), (10, (vi s1.1)), (12, (.b 12 0)), (14, (vb x10)), (22, (.o 16)), (23, (vi ((x3.length : Int)))), (24, (vi s1.2.1)), (69, (vb v6))], [(3, .box [(.c (.func 29) [] [])]), (16, .own 48 3 (List.map c_span_edge x3)), (84, .own 33 2 (List.map c_api_Span s1.2.2.1)), (9, .box (List.map vi ((s1.2.2.2.set x4.set_.toNat ((x5 + v3)))))), (12, .box [(vi x4.at_), (vi x4.set_), (vb x4.begins_)])]⟩ ?_ ?_
            · refine Ok.region Try.tok ?_
              obtain ⟨c2, hg2, hv6⟩ := bindS hv6
              refine Br.ite hg2 (fun hb hg2 => ?_) fun hb hg2 => ?_
              · cases hg2
                cases hv6
                exact Wk.tab ⟨Le.refl _, Le.refl _, Le.refl _, Le.refl _, Le.refl _, Le.refl _, Le.refl _, Le.refl _, Le.refl _, Le.refl _, Le.refl _, True.intro⟩ ⟨⟨_, rfl, .refl _⟩, ⟨_, rfl, .refl _⟩, ⟨_, rfl, .refl _⟩, ⟨_, rfl, .refl _⟩, ⟨_, rfl, .refl _⟩, True.intro⟩ rfl
              · cases hg2
                cases hv6
                exact Wk.tab ⟨Le.refl _, Le.refl _, Le.refl _, Le.refl _, Le.refl _, Le.refl _, Le.refl _, Le.refl _, Le.refl _, Le.refl _, Le.refl _, True.intro⟩ ⟨⟨_, rfl, .refl _⟩, ⟨_, rfl, .refl _⟩, ⟨_, rfl, .refl _⟩, ⟨_, rfl, .refl _⟩, ⟨_, rfl, .refl _⟩, True.intro⟩ rfl
            refine Ok.cond (d := 69) (b := v6) rfl hv5 (fun hb hv5 => ?_) fun hb hv5 => ?_
            · refine Ok.region Try.tok ?_
              refine ⟨_, rfl, ?_⟩
              cases hv5
              exact Wk.tab ⟨Le.refl _, Le.refl _, Le.refl _, Le.refl _, Le.refl _, Le.refl _, Le.refl _, Le.refl _, Le.refl _, Le.refl _, True.intro⟩ ⟨⟨_, rfl, .refl _⟩, ⟨_, rfl, .refl _⟩, ⟨_, rfl, .refl _⟩, ⟨_, rfl, .refl _⟩, ⟨_, rfl, .refl _⟩, True.intro⟩ rfl
            · refine Ok.skip ?_
              cases hv5
              exact Wk.tab ⟨Le.refl _, Le.refl _, Le.refl _, Le.refl _, Le.refl _, Le.refl _, Le.refl _, Le.refl _, Le.refl _, Le.refl _, True.intro⟩ ⟨⟨_, rfl, .refl _⟩, ⟨_, rfl, .refl _⟩, ⟨_, rfl, .refl _⟩, ⟨_, rfl, .refl _⟩, ⟨_, rfl, .refl _⟩, True.intro⟩ rfl
          obtain ⟨v7, hv7, hv2⟩ := bindS hv2
          refine Ok.seqw ⟨Cat.tab [(3, (.b 3 0)), (7, (.o 16)), (8, (.o 84)), (9, (.b 9 0)), (10, (vi v5)), (12, (.b 12 0)), (22, (.o 16)), (23, (vi ((x3.length : Int)))), (24, (vi s1.2.1)), (77, (vb v7))], [(3, .box [(.c (.func 29) [] [])]), (16, .own 48 3 (List.map c_span_edge x3)), (84, .own 33 2 (List.map c_api_Span s1.2.2.1)), (9, .box (List.map vi ((s1.2.2.2.set x4.set_.toNat ((x5 + v3)))))), (12, .box [(vi x4.at_), (vi x4.set_), (vb x4.begins_)])]⟩ ?_ ?_
          · refine Ok.region Try.tok ?_
            obtain ⟨c3, hg3, hv7⟩ := bindS hv7
            refine Br.ite hg3 (fun hb hg3 => ?_) fun hb hg3 => ?_
            · cases hg3
              cases hv7
              exact Wk.tab ⟨Le.refl _, Le.refl _, Le.refl _, Le.refl _, Le.refl _, Le.refl _, Le.refl _, Le.refl _, Le.refl _, Le.refl _, True.intro⟩ ⟨⟨_, rfl, .refl _⟩, ⟨_, rfl, .refl _⟩, ⟨_, rfl, .refl _⟩, ⟨_, rfl, .refl _⟩, ⟨_, rfl, .refl _⟩, True.intro⟩ rfl
            · cases hg3
              cases hv7
              exact Wk.tab ⟨Le.refl _, Le.refl _, Le.refl _, Le.refl _, Le.refl _, Le.refl _, Le.refl _, Le.refl _, Le.refl _, Le.refl _, True.intro⟩ ⟨⟨_, rfl, .refl _⟩, ⟨_, rfl, .refl _⟩, ⟨_, rfl, .refl _⟩, ⟨_, rfl, .refl _⟩, ⟨_, rfl, .refl _⟩, True.intro⟩ rfl
          refine Ok.cond (d := 77) (b := v7) rfl hv2 (fun hb hv2 => ?_) fun hb hv2 => ?_
          · refine Ok.seq ?_
            refine Ok.region Try.tok ?_
            obtain ⟨hc7, hv2⟩ := chk_some hv2
            refine ⟨_, rfl, Or.inl ⟨rowsLen_map (f := c_api_Span) (n := 2) (fun _ => rfl) ([(⟨v5, x4.at_⟩ : api_Span)]), app_b2 (f := c_api_Span) (l := s1.2.2.1) (l' := ([(⟨v5, x4.at_⟩ : api_Span)])) hc7, _, (List.map_append (f := c_api_Span) (l₁ := s1.2.2.1) (l₂ := ([(⟨v5, x4.at_⟩ : api_Span)]))).symm, ?_⟩⟩
            refine Ok.wk (Wk.tab (L := [(3, (.b 3 0)), (7, (.o 16)), (8, (.o 84)), (9, (.b 9 0)), (22, (.o 16)), (23, (vi ((x3.length : Int)))), (24, (vi s1.2.1))]) (H' := [(3, .box [(.c (.func 29) [] [])]), (16, .own 48 3 (List.map c_span_edge x3)), (84, .own 33 2 (List.map c_api_Span ((s1.2.2.1 ++ [(⟨v5, x4.at_⟩ : api_Span)])))), (9, .box (List.map vi ((s1.2.2.2.set x4.set_.toNat ((x5 + v3))))))]) ⟨Le.refl _, Le.refl _, Le.refl _, Le.refl _, Le.refl _, Le.refl _, Le.refl _, True.intro⟩ ⟨⟨_, rfl, .refl _⟩, ⟨_, rfl, .refl _⟩, ⟨_, rfl, .refl _⟩, ⟨_, rfl, .arr1 (fun _ _ => rfl)⟩, True.intro⟩ rfl) ?_
            refine Ok.region Try.tok ?_
            cases hv2
            exact Wk.tab ⟨Le.refl _, Le.refl _, Le.refl _, Le.refl _, Le.refl _, Le.refl _, Le.refl _, Le.refl _, True.intro⟩ ⟨⟨_, rfl, .refl _⟩, ⟨_, rfl, .refl _⟩, ⟨_, rfl, .refl _⟩, ⟨_, rfl, .refl _⟩, True.intro⟩ rfl
          · refine Ok.skip ?_
            cases hv2
            exact Wk.tab ⟨Le.refl _, Le.refl _, Le.refl _, Le.refl _, Le.refl _, Le.refl _, Le.refl _, Le.refl _, True.intro⟩ ⟨⟨_, rfl, .refl _⟩, ⟨_, rfl, .refl _⟩, ⟨_, rfl, .refl _⟩, ⟨_, rfl, .refl _⟩, True.intro⟩ rfl
      refine Ok.region Try.tok ?_
      obtain ⟨hc8, hB1⟩ := chk_some hB1
      refine (Or.inl ⟨hc8, ?_⟩)
      exact ⟨_, (Option.some.inj hB1).symm, Wk.tab ⟨Le.refl _, Le.refl _, Le.refl _, Le.refl _, Le.refl _, Le.refl _, Le.refl _, Le.refl _, True.intro⟩ ⟨⟨_, rfl, .refl _⟩, ⟨_, rfl, .refl _⟩, ⟨_, rfl, .refl _⟩, ⟨_, rfl, .refl _⟩, True.intro⟩ rfl⟩
    · refine Ok.exit ?_
      have hB1 := out_ret hB1 hy1
      cases hB1
      exact Wk.tab ⟨Le.refl _, True.intro⟩ ⟨⟨_, rfl, .refl _⟩, True.intro⟩ rfl
  refine Ok.seq ?_
  refine Ok.region Try.tok ?_
  refine Ok.wk (Wk.tab (L := [(6, (.o 84))]) (H' := [(84, .own 33 2 (List.map c_api_Span v1))]) ⟨Le.refl _, True.intro⟩ ⟨⟨_, rfl, .refl _⟩, True.intro⟩ rfl) ?_
  refine Ok.ret ?_
  cases h
  exact (.inr ⟨_, rfl, rfl⟩)
theorem w_span_asked_of__span_Cut_1 {p_a : List api_Span} {p_b : List api_Span} {r : (List api_Span)} (h : span_asked_of__span_Cut_1 p_a p_b = some r) : Pure Try.prog 28 [(.a [(.c (.func 29) [] [])]), (.s (List.map c_api_Span p_a)), (.s (List.map c_api_Span p_b))] (.s (List.map c_api_Span r)) := (wo_span_asked_of__span_Cut_1 h).pure

theorem w_span_Cut {p_a : List api_Span} {p_b : List api_Span} {r : (List api_Span)} (h : span_Cut p_a p_b = some r) : Pure Try.prog 16 [(.s (List.map c_api_Span p_a)), (.s (List.map c_api_Span p_b))] (.s (List.map c_api_Span r)) := by
  refine pure_of_ok (n := 9) (c := (Try.f16.body.getD .skip)) Try.tok Try.func16 (by kernel_rfl) rfl rfl (Nat.le_of_ble_eq_true rfl) ?_
  unfold span_Cut at h
  refine Ok.wk (Wk.tab (L := [(0, (.s (List.map c_api_Span p_a))), (1, (.s (List.map c_api_Span p_b)))]) (H' := []) ⟨Le.refl _, Le.refl _, True.intro⟩ True.intro rfl) ?_
  refine Ok.seq ?_
  refine Ok.region Try.tok ?_
  refine Ok.wk (Wk.tab (L := [(0, (.s (List.map c_api_Span p_a))), (1, (.s (List.map c_api_Span p_b)))]) (H' := []) ⟨Le.refl _, Le.refl _, True.intro⟩ True.intro rfl) ?_
  refine Ok.seq ?_
  refine Ok.region Try.tok ?_
  obtain ⟨x1, hx1, h⟩ := bindS h
  refine CallOk.call (w_span_asked_of__span_Cut_1 hx1) (LeL.refl _) ?_
  refine Ok.wk (Wk.tab (L := [(4, (.s (List.map c_api_Span x1)))]) (H' := []) ⟨Le.refl _, True.intro⟩ True.intro rfl) ?_
  refine Ok.ret ?_
  cases h
  exact Fz.s

theorem w_span_Meet_1 {p_x : Bool} {p_y : Bool} {r : Bool} (h : span_Meet_1 p_x p_y = some r) : Pure Try.prog 30 [(vb p_x), (vb p_y)] (vb r) := by
  refine pure_of_ok (n := 9) (c := (Try.f30.body.getD .skip)) Try.tok Try.func30 (by kernel_rfl) rfl rfl (Nat.le_of_ble_eq_true rfl) ?_
  unfold span_Meet_1 at h
  refine Ok.wk (Wk.tab (L := [(0, (vb p_x)), (1, (vb p_y))]) (H' := []) ⟨Le.refl _, Le.refl _, True.intro⟩ True.intro rfl) ?_
  refine Ok.seq ?_
  refine Ok.region Try.tok ?_
  refine Ok.wk (Wk.tab (L := [(0, (vb p_x)), (1, (vb p_y))]) (H' := []) ⟨Le.refl _, Le.refl _, True.intro⟩ True.intro rfl) ?_
  obtain ⟨v1, hv1, h⟩ := bindS h
  refine Ok.seqw ⟨Cat.tab [(4, (vb v1))], []⟩ ?_ ?_
  · refine Ok.region Try.tok ?_
    obtain ⟨c1, hg1, hv1⟩ := bindS hv1
    refine Br.ite hg1 (fun hb hg1 => ?_) fun hb hg1 => ?_
    · cases hg1
      cases hv1
      exact Wk.tab ⟨Le.refl _, True.intro⟩ True.intro rfl
    · cases hg1
      cases hv1
      exact Wk.tab ⟨Le.refl _, True.intro⟩ True.intro rfl
  refine Ok.ret ?_
  cases h
  exact Fz.v

theorem wo_span_asked_of__span_Meet_1 {p_a : List api_Span} {p_b : List api_Span} {r : (List api_Span)} (h : span_asked_of__span_Meet_1 p_a p_b = some r) : POwn Try.prog 28 [(.a [(.c (.func 30) [] [])]), (.s (List.map c_api_Span p_a)), (.s (List.map c_api_Span p_b))] 33 2 (List.map c_api_Span r) := by
  refine pown_of_ok (n := 87) (c := (Try.f28.body.getD .skip)) Try.tok Try.func28 (by kernel_rfl) rfl rfl (Nat.le_of_ble_eq_true rfl) ?_
  unfold span_asked_of__span_Meet_1 at h
  refine Ok.wk (Wk.tab (L := [(0, (.a [(.c (.func 30) [] [])])), (1, (.s (List.map c_api_Span p_a))), (2, (.s (List.map c_api_Span p_b)))]) (H' := []) ⟨Le.refl _, Le.refl _, Le.refl _, True.intro⟩ True.intro rfl) ?_
  refine Ok.seq ?_
  refine Ok.region Try.tok ?_
  refine Ok.wk (Wk.tab (L := [(1, (.s (List.map c_api_Span p_a))), (2, (.s (List.map c_api_Span p_b))), (3, (.b 3 0))]) (H' := [(3, .box [(.c (.func 30) [] [])])]) ⟨Le.refl _, Le.refl _, Le.refl _, True.intro⟩ ⟨⟨_, rfl, .refl _⟩, True.intro⟩ rfl) ?_
  refine Ok.seq ?_
  refine Ok.region Try.tok ?_
  obtain ⟨x1, hx1, h⟩ := bindS h
  refine CallOk.own (D := 16) (wo_span_edges hx1) (LeL.refl _) rfl ?_
  obtain ⟨x2, hx2, h⟩ := bindS h
  refine CallOk.call (w_span_edges hx2) (LeL.refl _) ?_
  obtain ⟨hc1, h⟩ := chk_some h
  refine ⟨rowsLen_map (f := c_span_edge) (n := 3) (fun _ => rfl) x2, app_b2 (f := c_span_edge) (l := x1) (l' := x2) hc1, _, (List.map_append (f := c_span_edge) (l₁ := x1) (l₂ := x2)).symm, ?_⟩
  refine Ok.wk (Wk.tab (L := [(3, (.b 3 0)), (7, (.o 16))]) (H' := [(3, .box [(.c (.func 30) [] [])]), (16, .own 48 3 (List.map c_span_edge ((x1 ++ x2))))]) ⟨Le.refl _, Le.refl _, True.intro⟩ ⟨⟨_, rfl, .refl _⟩, ⟨_, rfl, .refl _⟩, True.intro⟩ rfl) ?_
  refine Ok.seq ?_
  refine Ok.region Try.tok ?_
  obtain ⟨x3, hx3, h⟩ := bindS h
  refine CallOk.chgLe (id := 16) (pchg_sortF (E := 48) (enc := c_span_edge) Try.says36 Try.enters36 (fun _ => rfl) (fun _ => rfl) (fun _ _ _ h => w_span_asked_of_1 h) (enters_of Try.func37 (by kernel_rfl) rfl) hx3) rfl (.refl _) rfl (.cons Lr.o (.cons (Lr.imm rfl) .nil)) ?_
  rintro _ _ ⟨rfl, rfl⟩
  refine Ok.wk (Wk.tab (L := [(3, (.b 3 0)), (7, (.o 16))]) (H' := [(3, .box [(.c (.func 30) [] [])]), (16, .own 48 3 (List.map c_span_edge x3))]) ⟨Le.refl _, Le.refl _, True.intro⟩ ⟨⟨_, rfl, .refl _⟩, ⟨_, rfl, .refl _⟩, True.intro⟩ rfl) ?_
  refine Ok.seq ?_
  refine Ok.region Try.tok ?_
  refine Ok.wk (Wk.tab (L := [(3, (.b 3 0)), (7, (.o 16)), (8, (.v (.slice none 0 0)))]) (H' := [(3, .box [(.c (.func 30) [] [])]), (16, .own 48 3 (List.map c_span_edge x3))]) ⟨Le.refl _, Le.refl _, Le.refl _, True.intro⟩ ⟨⟨_, rfl, .refl _⟩, ⟨_, rfl, .refl _⟩, True.intro⟩ rfl) ?_
  refine Ok.seq ?_
  refine Ok.region Try.tok ?_
  refine Ok.wk (Wk.tab (L := [(3, (.b 3 0)), (7, (.o 16)), (8, (.v (.slice none 0 0))), (9, (.b 9 0))]) (H' := [(3, .box [(.c (.func 30) [] [])]), (16, .own 48 3 (List.map c_span_edge x3)), (9, .box (List.map vi ((List.replicate 2 0))))]) ⟨Le.refl _, Le.refl _, Le.refl _, Le.refl _, True.intro⟩ ⟨⟨_, rfl, .refl _⟩, ⟨_, rfl, .refl _⟩, ⟨_, rfl, .refl _⟩, True.intro⟩ rfl) ?_
  refine Ok.seq ?_
  refine Ok.region Try.tok ?_
  refine Ok.wk (Wk.tab (L := [(3, (.b 3 0)), (7, (.o 16)), (8, (.v (.slice none 0 0))), (9, (.b 9 0)), (10, (vi ((-1))))]) (H' := [(3, .box [(.c (.func 30) [] [])]), (16, .own 48 3 (List.map c_span_edge x3)), (9, .box (List.map vi ((List.replicate 2 0))))]) ⟨Le.refl _, Le.refl _, Le.refl _, Le.refl _, Le.refl _, True.intro⟩ ⟨⟨_, rfl, .refl _⟩, ⟨_, rfl, .refl _⟩, ⟨_, rfl, .refl _⟩, True.intro⟩ rfl) ?_
  obtain ⟨v1, hv1, h⟩ := bindS h
  refine Ok.seqw ⟨Cat.tab [(8, (.o 84))], [(84, .own 33 2 (List.map c_api_Span v1))]⟩ ?_ ?_
  · refine Ok.seq ?_
    refine Ok.region Try.tok ?_
    refine ⟨_, List.length_map _, fun _ => ?_⟩
    refine Ok.wk (Wk.tab (L := [(3, (.b 3 0)), (7, (.o 16)), (8, (.v (.slice none 0 0))), (9, (.b 9 0)), (10, (vi ((-1)))), (22, (.o 16)), (23, (vi ((x3.length : Int)))), (24, (vi (0)))]) (H' := [(3, .box [(.c (.func 30) [] [])]), (16, .own 48 3 (List.map c_span_edge x3)), (9, .box (List.map vi ((List.replicate 2 0))))]) ⟨Le.refl _, Le.refl _, Le.refl _, Le.refl _, Le.refl _, Le.refl _, Le.refl _, Le.refl _, True.intro⟩ ⟨⟨_, rfl, .refl _⟩, ⟨_, rfl, .refl _⟩, ⟨_, rfl, .refl _⟩, True.intro⟩ rfl) ?_
    refine Ok.block ?_
    refine Ok.loop (fun s1 => ⟨Cat.tab [(3, (.b 3 0)), (7, (.o 16)), (8, (.o 84)), (9, (.b 9 0)), (10, (vi s1.1)), (22, (.o 16)), (23, (vi ((x3.length : Int)))), (24, (vi s1.2.1))], [(3, .box [(.c (.func 30) [] [])]), (16, .own 48 3 (List.map c_span_edge x3)), (84, .own 33 2 (List.map c_api_Span s1.2.2.1)), (9, .box (List.map vi s1.2.2.2))]⟩) (span_asked_of__span_Meet_1_B1 x3) (s0 := ((-1), 0, [], (List.replicate 2 0))) hv1 ((Wk.own0 (t := 8) (id := 84) (E := 33) (K := 2) rfl rfl).trans (Wk.tab ⟨Le.refl _, Le.refl _, Le.refl _, Le.refl _, Le.refl _, Le.refl _, Le.refl _, Le.refl _, True.intro⟩ ⟨⟨_, rfl, .refl _⟩, ⟨_, rfl, .refl _⟩, ⟨_, rfl, .refl _⟩, ⟨_, rfl, .arr1 (fun _ _ => rfl)⟩, True.intro⟩ rfl)) ?_
    intro s1 y1 hB1 hy1
    unfold span_asked_of__span_Meet_1_B1 at hB1
    refine Ok.seq ?_
    refine Ok.region Try.tok ?_
    refine Ok.wk (Wk.tab (L := [(3, (.b 3 0)), (7, (.o 16)), (8, (.o 84)), (9, (.b 9 0)), (10, (vi s1.1)), (22, (.o 16)), (23, (vi ((x3.length : Int)))), (24, (vi s1.2.1)), (25, (vb ((decide (s1.2.1 < (x3.length : Int))))))]) (H' := [(3, .box [(.c (.func 30) [] [])]), (16, .own 48 3 (List.map c_span_edge x3)), (84, .own 33 2 (List.map c_api_Span s1.2.2.1)), (9, .box (List.map vi s1.2.2.2))]) ⟨Le.refl _, Le.refl _, Le.refl _, Le.refl _, Le.refl _, Le.refl _, Le.refl _, Le.refl _, Le.refl _, True.intro⟩ ⟨⟨_, rfl, .refl _⟩, ⟨_, rfl, .refl _⟩, ⟨_, rfl, .refl _⟩, ⟨_, rfl, .refl _⟩, True.intro⟩ rfl) ?_
    refine Ok.seq ?_
    refine Ok.cond (d := 25) (b := (decide (s1.2.1 < (x3.length : Int)))) rfl hB1 (fun hb hB1 => ?_) fun hb hB1 => ?_
    · refine Ok.skip ?_
      obtain ⟨v2, hv2, hB1⟩ := bindS hB1
      refine Ok.seqw ⟨Cat.tab [(3, (.b 3 0)), (7, (.o 16)), (8, (.o 84)), (9, (.b 9 0)), (10, (vi v2.1)), (22, (.o 16)), (23, (vi ((x3.length : Int)))), (24, (vi s1.2.1))], [(3, .box [(.c (.func 30) [] [])]), (16, .own 48 3 (List.map c_span_edge x3)), (84, .own 33 2 (List.map c_api_Span v2.2.1)), (9, .box (List.map vi v2.2.2))]⟩ ?_ ?_
      · refine Ok.block ?_
        refine Ok.seq ?_
        refine Ok.region Try.tok ?_
        obtain ⟨x4, hx4, hv2⟩ := bindS hv2
        refine ⟨_, idx_nat hx4, idx_ltm hx4, ⟨_, idx_row hx4, rfl, _, rfl, ⟨_, rfl, ?_⟩⟩⟩
        refine Ok.wk (Wk.tab (L := [(3, (.b 3 0)), (7, (.o 16)), (8, (.o 84)), (9, (.b 9 0)), (10, (vi s1.1)), (11, (vi s1.2.1)), (12, (.b 12 0)), (22, (.o 16)), (23, (vi ((x3.length : Int)))), (24, (vi s1.2.1))]) (H' := [(3, .box [(.c (.func 30) [] [])]), (16, .own 48 3 (List.map c_span_edge x3)), (84, .own 33 2 (List.map c_api_Span s1.2.2.1)), (9, .box (List.map vi s1.2.2.2)), (12, .box [(vi x4.at_), (vi x4.set_), (vb x4.begins_)])]) ⟨Le.refl _, Le.refl _, Le.refl _, Le.refl _, Le.refl _, Le.refl _, Le.refl _, Le.refl _, Le.refl _, Le.refl _, True.intro⟩ ⟨⟨_, rfl, .refl _⟩, ⟨_, rfl, .refl _⟩, ⟨_, rfl, .refl _⟩, ⟨_, rfl, .arr1 (fun _ _ => rfl)⟩, ⟨_, rfl, .refl _⟩, True.intro⟩ rfl) ?_
        refine Ok.seq ?_
        refine Ok.region Try.tok ?_
        refine Ok.wk (Wk.tab (L := [(3, (.b 3 0)), (7, (.o 16)), (8, (.o 84)), (9, (.b 9 0)), (10, (vi s1.1)), (11, (vi s1.2.1)), (12, (.b 12 0)), (13, (vi (1))), (22, (.o 16)), (23, (vi ((x3.length : Int)))), (24, (vi s1.2.1))]) (H' := [(3, .box [(.c (.func 30) [] [])]), (16, .own 48 3 (List.map c_span_edge x3)), (84, .own 33 2 (List.map c_api_Span s1.2.2.1)), (9, .box (List.map vi s1.2.2.2)), (12, .box [(vi x4.at_), (vi x4.set_), (vb x4.begins_)])]) ⟨Le.refl _, Le.refl _, Le.refl _, Le.refl _, Le.refl _, Le.refl _, Le.refl _, Le.refl _, Le.refl _, Le.refl _, Le.refl _, True.intro⟩ ⟨⟨_, rfl, .refl _⟩, ⟨_, rfl, .refl _⟩, ⟨_, rfl, .refl _⟩, ⟨_, rfl, .refl _⟩, ⟨_, rfl, .refl _⟩, True.intro⟩ rfl) ?_
        refine Ok.seq ?_
        refine Ok.block ?_
        obtain ⟨v3, hv3, hv2⟩ := bindS hv2
        refine Ok.seqw ⟨Cat.tab [(3, (.b 3 0)), (7, (.o 16)), (8, (.o 84)), (9, (.b 9 0)), (10, (vi s1.1)), (11, (vi s1.2.1)), (12, (.b 12 0)), (13, (vi v3)), (22, (.o 16)), (23, (vi ((x3.length : Int)))), (24, (vi s1.2.1))], [(3, .box [(.c (.func 30) [] [])]), (16, .own 48 3 (List.map c_span_edge x3)), (84, .own 33 2 (List.map c_api_Span s1.2.2.1)), (9, .box (List.map vi s1.2.2.2)), (12, .box [(vi x4.at_), (vi x4.set_), (vb x4.begins_)])]⟩ ?_ ?_
        · refine Ok.block ?_
          refine Ok.seq ?_
          refine Ok.block ?_
          refine Ok.seq ?_
          refine Ok.seq ?_
          refine Ok.region Try.tok ?_
          refine ⟨_, rfl, ?_⟩
          refine Ok.wk (Wk.tab (L := [(3, (.b 3 0)), (7, (.o 16)), (8, (.o 84)), (9, (.b 9 0)), (10, (vi s1.1)), (11, (vi s1.2.1)), (12, (.b 12 0)), (13, (vi (1))), (22, (.o 16)), (23, (vi ((x3.length : Int)))), (24, (vi s1.2.1)), (29, (vb ((!x4.begins_))))]) (H' := [(3, .box [(.c (.func 30) [] [])]), (16, .own 48 3 (List.map c_span_edge x3)), (84, .own 33 2 (List.map c_api_Span s1.2.2.1)), (9, .box (List.map vi s1.2.2.2)), (12, .box [(vi x4.at_), (vi x4.set_), (vb x4.begins_)])]) ⟨Le.refl _, Le.refl _, Le.refl _, Le.refl _, Le.refl _, Le.refl _, Le.refl _, Le.refl _, Le.refl _, Le.refl _, Le.refl _, Le.refl _, True.intro⟩ ⟨⟨_, rfl, .refl _⟩, ⟨_, rfl, .refl _⟩, ⟨_, rfl, .refl _⟩, ⟨_, rfl, .refl _⟩, ⟨_, rfl, .refl _⟩, True.intro⟩ rfl) ?_
          refine Ok.cond (d := 29) (b := (!x4.begins_)) rfl hv3 (fun hb hv3 => ?_) fun hb hv3 => ?_
          · refine Ok.exit ?_
            refine Ok.region Try.tok ?_
            cases hv3
            exact Wk.tab ⟨Le.refl _, Le.refl _, Le.refl _, Le.refl _, Le.refl _, Le.refl _, Le.refl _, Le.refl _, Le.refl _, Le.refl _, Le.refl _, True.intro⟩ ⟨⟨_, rfl, .refl _⟩, ⟨_, rfl, .refl _⟩, ⟨_, rfl, .refl _⟩, ⟨_, rfl, .refl _⟩, ⟨_, rfl, .refl _⟩, True.intro⟩ rfl
          · refine Ok.skip ?_
            refine Ok.exit ?_
            cases hv3
            exact Wk.tab ⟨Le.refl _, Le.refl _, Le.refl _, Le.refl _, Le.refl _, Le.refl _, Le.refl _, Le.refl _, Le.refl _, Le.refl _, Le.refl _, True.intro⟩ ⟨⟨_, rfl, .refl _⟩, ⟨_, rfl, .refl _⟩, ⟨_, rfl, .refl _⟩, ⟨_, rfl, .refl _⟩, ⟨_, rfl, .refl _⟩, True.intro⟩ rfl
        refine Ok.seq ?_
        refine Ok.region Try.tok ?_
        obtain ⟨x5, hx5, hv2⟩ := bindS hv2
        obtain ⟨hc2, hv2⟩ := chk_some hv2
        obtain ⟨hc3, hv2⟩ := chk_some hv2
        obtain ⟨x6, hx6, hv2⟩ := bindS hv2
        obtain ⟨hc4, hv2⟩ := chk_some hv2
        refine ⟨_, rfl, ⟨_, idx_nat hx5, arr_lt hx5 hc2, bif_of (arr_ble hx5) ⟨_, arr_get hx5, (Or.inl ⟨hc3, ⟨_, idx_nat hx6, arr_lt hx6 hc4, bif_of (arr_st hx6) ⟨_, arr_set hx6, ?_⟩⟩⟩)⟩⟩⟩
        refine Ok.wk (Wk.tab (L := [(3, (.b 3 0)), (7, (.o 16)), (8, (.o 84)), (9, (.b 9 0)), (10, (vi s1.1)), (11, (vi s1.2.1)), (12, (.b 12 0)), (22, (.o 16)), (23, (vi ((x3.length : Int)))), (24, (vi s1.2.1))]) (H' := [(3, .box [(.c (.func 30) [] [])]), (16, .own 48 3 (List.map c_span_edge x3)), (84, .own 33 2 (List.map c_api_Span s1.2.2.1)), (9, .box (List.map vi ((s1.2.2.2.set x4.set_.toNat ((x5 + v3)))))), (12, .box [(vi x4.at_), (vi x4.set_), (vb x4.begins_)])]) ⟨Le.refl _, Le.refl _, Le.refl _, Le.refl _, Le.refl _, Le.refl _, Le.refl _, Le.refl _, Le.refl _, Le.refl _, True.intro⟩ ⟨⟨_, rfl, .refl _⟩, ⟨_, rfl, .refl _⟩, ⟨_, rfl, .refl _⟩, ⟨_, rfl, .refl _⟩, ⟨_, rfl, .refl _⟩, True.intro⟩ rfl) ?_
        refine Ok.exit ?_
        refine Ok.seq ?_
        obtain ⟨v4, hv4, hv2⟩ := bindS hv2
        refine Ok.seqw ⟨Cat.tab [(3, (.b 3 0)), (7, (.o 16)), (8, (.o 84)), (9, (.b 9 0)), (10, (vi s1.1)), (12, (.b 12 0)), (22, (.o 16)), (23, (vi ((x3.length : Int)))), (24, (vi s1.2.1)), (55, (vb v4))], [(3, .box [(.c (.func 30) [] [])]), (16, .own 48 3 (List.map c_span_edge x3)), (84, .own 33 2 (List.map c_api_Span s1.2.2.1)), (9, .box (List.map vi ((s1.2.2.2.set x4.set_.toNat ((x5 + v3)))))), (12, .box [(vi x4.at_), (vi x4.set_), (vb x4.begins_)])]⟩ ?_ ?_
        · refine Ok.draw (m := 16) Try.tok Try.mixed (by kernel_rfl) ?_
          obtain ⟨hc5, hv4⟩ := chk_some hv4
          refine ⟨_, rfl, ⟨_, (Or.inl ⟨hc5, rfl⟩), ⟨_, rfl, ⟨_, ⟨_, List.length_map _, fun _ => rfl⟩, ⟨_, rfl, ⟨_, rfl, ?_⟩⟩⟩⟩⟩⟩
          obtain ⟨c1, hg1, hv4⟩ := bindS hv4
          refine Br.ite hg1 (fun hb hg1 => ?_) fun hb hg1 => ?_
          · obtain ⟨hc6, hg1⟩ := chk_some hg1
            obtain ⟨x7, hx7, hg1⟩ := bindS hg1
            refine ⟨_, rfl, ⟨_, rfl, ⟨_, (Or.inl ⟨hc6, rfl⟩), ⟨_, ⟨_, idx_nat hx7, idx_ltm hx7, rfl⟩, ⟨_, rfl, ⟨_, ⟨_, idx_row hx7, rfl, _, rfl, rfl⟩, ⟨_, rfl, ⟨_, ⟨_, rfl, rfl⟩, ⟨_, rfl, ?_⟩⟩⟩⟩⟩⟩⟩⟩⟩
            cases hg1
            refine ⟨_, rfl, ?_⟩
            cases hv4
            exact Wk.tab ⟨Le.refl _, Le.refl _, Le.refl _, Le.refl _, Le.refl _, Le.refl _, Le.refl _, Le.refl _, Le.refl _, Le.refl _, True.intro⟩ ⟨⟨_, rfl, .refl _⟩, ⟨_, rfl, .refl _⟩, ⟨_, rfl, .refl _⟩, ⟨_, rfl, .refl _⟩, ⟨_, rfl, .refl _⟩, True.intro⟩ rfl
          · cases hg1
            refine ⟨_, rfl, ?_⟩
            cases hv4
            exact Wk.tab ⟨Le.refl _, Le.refl _, Le.refl _, Le.refl _, Le.refl _, Le.refl _, Le.refl _, Le.refl _, Le.refl _, Le.refl _, True.intro⟩ ⟨⟨_, rfl, .refl _⟩, ⟨_, rfl, .refl _⟩, ⟨_, rfl, .refl _⟩, ⟨_, rfl, .refl _⟩, ⟨_, rfl, .refl _⟩, True.intro⟩ rfl
        refine Ok.cond (d := 55) (b := v4) rfl hv2 (fun hb hv2 => ?_) fun hb hv2 => ?_
        · refine Ok.exit ?_
          cases hv2
          exact Wk.tab ⟨Le.refl _, Le.refl _, Le.refl _, Le.refl _, Le.refl _, Le.refl _, Le.refl _, Le.refl _, True.intro⟩ ⟨⟨_, rfl, .refl _⟩, ⟨_, rfl, .refl _⟩, ⟨_, rfl, .refl _⟩, ⟨_, rfl, .refl _⟩, True.intro⟩ rfl
        · refine Ok.skip ?_
          refine Ok.seq ?_
          refine Ok.region Try.tok ?_
          obtain ⟨x8, hx8, hv2⟩ := bindS hv2
          obtain ⟨x9, hx9, hv2⟩ := bindS hv2
          obtain ⟨x10, hx10, hv2⟩ := bindS hv2
          refine ⟨_, rfl, ⟨_, idx_nat hx8, arr_lt hx8 (by decide), bif_of (arr_ble hx8) ⟨_, arr_get hx8, ⟨_, idx_nat hx9, arr_lt hx9 (by decide), bif_of (arr_ble hx9) ⟨_, arr_get hx9, ?_⟩⟩⟩⟩⟩
          refine CallOk.call (w_span_Meet_1 hx10) (LeL.refl _) ?_
          refine Ok.wk (Wk.tab (L := [(3, (.b 3 0)), (7, (.o 16)), (8, (.o 84)), (9, (.b 9 0)), (10, (vi s1.1)), (12, (.b 12 0)), (14, (vb x10)), (22, (.o 16)), (23, (vi ((x3.length : Int)))), (24, (vi s1.2.1))]) (H' := [(3, .box [(.c (.func 30) [] [])]), (16, .own 48 3 (List.map c_span_edge x3)), (84, .own 33 2 (List.map c_api_Span s1.2.2.1)), (9, .box (List.map vi ((s1.2.2.2.set x4.set_.toNat ((x5 + v3)))))), (12, .box [(vi x4.at_), (vi x4.set_), (vb x4.begins_)])]) ⟨Le.refl _, Le.refl _, Le.refl _, Le.refl _, Le.refl _, Le.refl _, Le.refl _, Le.refl _, Le.refl _, Le.refl _, True.intro⟩ ⟨⟨_, rfl, .refl _⟩, ⟨_, rfl, .refl _⟩, ⟨_, rfl, .refl _⟩, ⟨_, rfl, .refl _⟩, ⟨_, rfl, .refl _⟩, True.intro⟩ rfl) ?_
          obtain ⟨v5, hv5, hv2⟩ := bindS hv2
          refine Ok.seqw ⟨Cat.tab [(3, (.b 3 0)), (7, (.o 16)), (8, (.o 84)), (9, (.b 9 0)), (10, (vi v5)), (12, (.b 12 0)), (14, (vb x10)), (22, (.o 16)), (23, (vi ((x3.length : Int)))), (24, (vi s1.2.1))], [(3, .box [(.c (.func 30) [] [])]), (16, .own 48 3 (List.map c_span_edge x3)), (84, .own 33 2 (List.map c_api_Span s1.2.2.1)), (9, .box (List.map vi ((s1.2.2.2.set x4.set_.toNat ((x5 + v3)))))), (12, .box [(vi x4.at_), (vi x4.set_), (vb x4.begins_)])]⟩ ?_ ?_
          · obtain ⟨v6, hv6, hv5⟩ := bindS hv5
            refine Ok.seqw ⟨Cat.tab [(3, (.b 3 0)), (7, (.o 16)), (8, (.o 84)), (9, (.b 9 0)), (10, (vi s1.1)), (12, (.b 12 0)), (14, (vb x10)), (22, (.o 16)), (23, (vi ((x3.length : Int)))), (24, (vi s1.2.1)), (69, (vb v6))], [(3, .box [(.c (.func 30) [] [])]), (16, .own 48 3 (List.map c_span_edge x3)), (84, .own 33 2 (List.map c_api_Span s1.2.2.1)), (9, .box (List.map vi ((s1.2.2.2.set x4.set_.toNat ((x5 + v3)))))), (12, .box [(vi x4.at_), (vi x4.set_), (vb x4.begins_)])]⟩ ?_ ?_
            · refine Ok.region Try.tok ?_
              obtain ⟨c2, hg2, hv6⟩ := bindS hv6
              refine Br.ite hg2 (fun hb hg2 => ?_) fun hb hg2 => ?_
              · cases hg2
                cases hv6
                exact Wk.tab ⟨Le.refl _, Le.refl _, Le.refl _, Le.refl _, Le.refl _, Le.refl _, Le.refl _, Le.refl _, Le.refl _, Le.refl _, Le.refl _, True.intro⟩ ⟨⟨_, rfl, .refl _⟩, ⟨_, rfl, .refl _⟩, ⟨_, rfl, .refl _⟩, ⟨_, rfl, .refl _⟩, ⟨_, rfl, .refl _⟩, True.intro⟩ rfl
              · cases hg2
                cases hv6
                exact Wk.tab ⟨Le.refl _, Le.refl _, Le.refl _, Le.refl _, Le.refl _, Le.refl _, Le.refl _, Le.refl _, Le.refl _, Le.refl _, Le.refl _, True.intro⟩ ⟨⟨_, rfl, .refl _⟩, ⟨_, rfl, .refl _⟩, ⟨_, rfl, .refl _⟩, ⟨_, rfl, .refl _⟩, ⟨_, rfl, .refl _⟩, True.intro⟩ rfl
            refine Ok.cond (d := 69) (b := v6) rfl hv5 (fun hb hv5 => ?_) fun hb hv5 => ?_
            · refine Ok.region Try.tok ?_
              refine ⟨_, rfl, ?_⟩
              cases hv5
              exact Wk.tab ⟨Le.refl _, Le.refl _, Le.refl _, Le.refl _, Le.refl _, Le.refl _, Le.refl _, Le.refl _, Le.refl _, Le.refl _, True.intro⟩ ⟨⟨_, rfl, .refl _⟩, ⟨_, rfl, .refl _⟩, ⟨_, rfl, .refl _⟩, ⟨_, rfl, .refl _⟩, ⟨_, rfl, .refl _⟩, True.intro⟩ rfl
            · refine Ok.skip ?_
              cases hv5
              exact Wk.tab ⟨Le.refl _, Le.refl _, Le.refl _, Le.refl _, Le.refl _, Le.refl _, Le.refl _, Le.refl _, Le.refl _, Le.refl _, True.intro⟩ ⟨⟨_, rfl, .refl _⟩, ⟨_, rfl, .refl _⟩, ⟨_, rfl, .refl _⟩, ⟨_, rfl, .refl _⟩, ⟨_, rfl, .refl _⟩, True.intro⟩ rfl
          obtain ⟨v7, hv7, hv2⟩ := bindS hv2
          refine Ok.seqw ⟨Cat.tab [(3, (.b 3 0)), (7, (.o 16)), (8, (.o 84)), (9, (.b 9 0)), (10, (vi v5)), (12, (.b 12 0)), (22, (.o 16)), (23, (vi ((x3.length : Int)))), (24, (vi s1.2.1)), (77, (vb v7))], [(3, .box [(.c (.func 30) [] [])]), (16, .own 48 3 (List.map c_span_edge x3)), (84, .own 33 2 (List.map c_api_Span s1.2.2.1)), (9, .box (List.map vi ((s1.2.2.2.set x4.set_.toNat ((x5 + v3)))))), (12, .box [(vi x4.at_), (vi x4.set_), (vb x4.begins_)])]⟩ ?_ ?_
          · refine Ok.region Try.tok ?_
            obtain ⟨c3, hg3, hv7⟩ := bindS hv7
            refine Br.ite hg3 (fun hb hg3 => ?_) fun hb hg3 => ?_
            · cases hg3
              cases hv7
              exact Wk.tab ⟨Le.refl _, Le.refl _, Le.refl _, Le.refl _, Le.refl _, Le.refl _, Le.refl _, Le.refl _, Le.refl _, Le.refl _, True.intro⟩ ⟨⟨_, rfl, .refl _⟩, ⟨_, rfl, .refl _⟩, ⟨_, rfl, .refl _⟩, ⟨_, rfl, .refl _⟩, ⟨_, rfl, .refl _⟩, True.intro⟩ rfl
            · cases hg3
              cases hv7
              exact Wk.tab ⟨Le.refl _, Le.refl _, Le.refl _, Le.refl _, Le.refl _, Le.refl _, Le.refl _, Le.refl _, Le.refl _, Le.refl _, True.intro⟩ ⟨⟨_, rfl, .refl _⟩, ⟨_, rfl, .refl _⟩, ⟨_, rfl, .refl _⟩, ⟨_, rfl, .refl _⟩, ⟨_, rfl, .refl _⟩, True.intro⟩ rfl
          refine Ok.cond (d := 77) (b := v7) rfl hv2 (fun hb hv2 => ?_) fun hb hv2 => ?_
          · refine Ok.seq ?_
            refine Ok.region Try.tok ?_
            obtain ⟨hc7, hv2⟩ := chk_some hv2
            refine ⟨_, rfl, Or.inl ⟨rowsLen_map (f := c_api_Span) (n := 2) (fun _ => rfl) ([(⟨v5, x4.at_⟩ : api_Span)]), app_b2 (f := c_api_Span) (l := s1.2.2.1) (l' := ([(⟨v5, x4.at_⟩ : api_Span)])) hc7, _, (List.map_append (f := c_api_Span) (l₁ := s1.2.2.1) (l₂ := ([(⟨v5, x4.at_⟩ : api_Span)]))).symm, ?_⟩⟩
            refine Ok.wk (Wk.tab (L := [(3, (.b 3 0)), (7, (.o 16)), (8, (.o 84)), (9, (.b 9 0)), (22, (.o 16)), (23, (vi ((x3.length : Int)))), (24, (vi s1.2.1))]) (H' := [(3, .box [(.c (.func 30) [] [])]), (16, .own 48 3 (List.map c_span_edge x3)), (84, .own 33 2 (List.map c_api_Span ((s1.2.2.1 ++ [(⟨v5, x4.at_⟩ : api_Span)])))), (9, .box (List.map vi ((s1.2.2.2.set x4.set_.toNat ((x5 + v3))))))]) ⟨Le.refl _, Le.refl _, Le.refl _, Le.refl _, Le.refl _, Le.refl _, Le.refl _, True.intro⟩ ⟨⟨_, rfl, .refl _⟩, ⟨_, rfl, .refl _⟩, ⟨_, rfl, .refl _⟩, ⟨_, rfl, .arr1 (fun _ _ => rfl)⟩, True.intro⟩ rfl) ?_
            refine Ok.region Try.tok ?_
            cases hv2
            exact Wk.tab ⟨Le.refl _, Le.refl _, Le.refl _, Le.refl _, Le.refl _, Le.refl _, Le.refl _, Le.refl _, True.intro⟩ ⟨⟨_, rfl, .refl _⟩, ⟨_, rfl, .refl _⟩, ⟨_, rfl, .refl _⟩, ⟨_, rfl, .refl _⟩, True.intro⟩ rfl
          · refine Ok.skip ?_
            cases hv2
            exact Wk.tab ⟨Le.refl _, Le.refl _, Le.refl _, Le.refl _, Le.refl _, Le.refl _, Le.refl _, Le.refl _, True.intro⟩ ⟨⟨_, rfl, .refl _⟩, ⟨_, rfl, .refl _⟩, ⟨_, rfl, .refl _⟩, ⟨_, rfl, .refl _⟩, True.intro⟩ rfl
      refine Ok.region Try.tok ?_
      obtain ⟨hc8, hB1⟩ := chk_some hB1
      refine (Or.inl ⟨hc8, ?_⟩)
      exact ⟨_, (Option.some.inj hB1).symm, Wk.tab ⟨Le.refl _, Le.refl _, Le.refl _, Le.refl _, Le.refl _, Le.refl _, Le.refl _, Le.refl _, True.intro⟩ ⟨⟨_, rfl, .refl _⟩, ⟨_, rfl, .refl _⟩, ⟨_, rfl, .refl _⟩, ⟨_, rfl, .refl _⟩, True.intro⟩ rfl⟩
    · refine Ok.exit ?_
      have hB1 := out_ret hB1 hy1
      cases hB1
      exact Wk.tab ⟨Le.refl _, True.intro⟩ ⟨⟨_, rfl, .refl _⟩, True.intro⟩ rfl
  refine Ok.seq ?_
  refine Ok.region Try.tok ?_
  refine Ok.wk (Wk.tab (L := [(6, (.o 84))]) (H' := [(84, .own 33 2 (List.map c_api_Span v1))]) ⟨Le.refl _, True.intro⟩ ⟨⟨_, rfl, .refl _⟩, True.intro⟩ rfl) ?_
  refine Ok.ret ?_
  cases h
  exact (.inr ⟨_, rfl, rfl⟩)
theorem w_span_asked_of__span_Meet_1 {p_a : List api_Span} {p_b : List api_Span} {r : (List api_Span)} (h : span_asked_of__span_Meet_1 p_a p_b = some r) : Pure Try.prog 28 [(.a [(.c (.func 30) [] [])]), (.s (List.map c_api_Span p_a)), (.s (List.map c_api_Span p_b))] (.s (List.map c_api_Span r)) := (wo_span_asked_of__span_Meet_1 h).pure

theorem w_span_Meet {p_a : List api_Span} {p_b : List api_Span} {r : (List api_Span)} (h : span_Meet p_a p_b = some r) : Pure Try.prog 18 [(.s (List.map c_api_Span p_a)), (.s (List.map c_api_Span p_b))] (.s (List.map c_api_Span r)) := by
  refine pure_of_ok (n := 9) (c := (Try.f18.body.getD .skip)) Try.tok Try.func18 (by kernel_rfl) rfl rfl (Nat.le_of_ble_eq_true rfl) ?_
  unfold span_Meet at h
  refine Ok.wk (Wk.tab (L := [(0, (.s (List.map c_api_Span p_a))), (1, (.s (List.map c_api_Span p_b)))]) (H' := []) ⟨Le.refl _, Le.refl _, True.intro⟩ True.intro rfl) ?_
  refine Ok.seq ?_
  refine Ok.region Try.tok ?_
  refine Ok.wk (Wk.tab (L := [(0, (.s (List.map c_api_Span p_a))), (1, (.s (List.map c_api_Span p_b)))]) (H' := []) ⟨Le.refl _, Le.refl _, True.intro⟩ True.intro rfl) ?_
  refine Ok.seq ?_
  refine Ok.region Try.tok ?_
  obtain ⟨x1, hx1, h⟩ := bindS h
  refine CallOk.call (w_span_asked_of__span_Meet_1 hx1) (LeL.refl _) ?_
  refine Ok.wk (Wk.tab (L := [(4, (.s (List.map c_api_Span x1)))]) (H' := []) ⟨Le.refl _, True.intro⟩ True.intro rfl) ?_
  refine Ok.ret ?_
  cases h
  exact Fz.s

theorem w_span_Has_1 {p_s : api_Span} {p_a1_0 : Int} {r : Bool} (h : span_Has_1 p_s p_a1_0 = some r) : Pure Try.prog 32 [(.a [(vi p_s.From), (vi p_s.To)]), (.p [(vi p_a1_0)])] (vb r) := by
  refine pure_of_ok (n := 14) (c := (Try.f32.body.getD .skip)) Try.tok Try.func32 (by kernel_rfl) rfl rfl (Nat.le_of_ble_eq_true rfl) ?_
  unfold span_Has_1 at h
  refine Ok.wk (Wk.tab (L := [(0, (.a [(vi p_s.From), (vi p_s.To)])), (1, (.p [(vi p_a1_0)]))]) (H' := []) ⟨Le.refl _, Le.refl _, True.intro⟩ True.intro rfl) ?_
  refine Ok.seq ?_
  refine Ok.region Try.tok ?_
  refine Ok.wk (Wk.tab (L := [(1, (.p [(vi p_a1_0)])), (2, (.b 2 0))]) (H' := [(2, .box [(vi p_s.From), (vi p_s.To)])]) ⟨Le.refl _, Le.refl _, True.intro⟩ ⟨⟨_, rfl, .refl _⟩, True.intro⟩ rfl) ?_
  obtain ⟨v1, hv1, h⟩ := bindS h
  refine Ok.seqw ⟨Cat.tab [(3, (vb v1))], []⟩ ?_ ?_
  · refine Ok.region Try.tok ?_
    refine ⟨_, rfl, ⟨_, rfl, ?_⟩⟩
    obtain ⟨c1, hg1, hv1⟩ := bindS hv1
    refine Br.ite hg1 (fun hb hg1 => ?_) fun hb hg1 => ?_
    · refine ⟨_, rfl, ⟨_, rfl, ?_⟩⟩
      cases hg1
      cases hv1
      exact Wk.tab ⟨Le.refl _, True.intro⟩ True.intro rfl
    · cases hg1
      cases hv1
      exact Wk.tab ⟨Le.refl _, True.intro⟩ True.intro rfl
  refine Ok.ret ?_
  cases h
  exact Fz.v

theorem w_slices_IndexFunc_api_Span_api_Span__span_Has_1 {p_s : List api_Span} {p_f_c0_0 : Int} {r : Int} (h : slices_IndexFunc_api_Span_api_Span__span_Has_1 p_s p_f_c0_0 = some r) : Pure Try.prog 39 [(.s (List.map c_api_Span p_s)), (.c (.func 32) [] [(.p [(vi p_f_c0_0)])])] (vi r) := by
  refine pure_of_ok (n := 19) (c := (Try.f39.body.getD .skip)) Try.tok Try.func39 (by kernel_rfl) rfl rfl (Nat.le_of_ble_eq_true rfl) ?_
  unfold slices_IndexFunc_api_Span_api_Span__span_Has_1 at h
  refine Ok.wk (Wk.tab (L := [(0, (.s (List.map c_api_Span p_s))), (1, (.c (.func 32) [] [(.p [(vi p_f_c0_0)])]))]) (H' := []) ⟨Le.refl _, Le.refl _, True.intro⟩ True.intro rfl) ?_
  refine Ok.seq ?_
  refine Ok.region Try.tok ?_
  refine Ok.wk (Wk.tab (L := [(0, (.s (List.map c_api_Span p_s))), (1, (.c (.func 32) [] [(.p [(vi p_f_c0_0)])]))]) (H' := []) ⟨Le.refl _, Le.refl _, True.intro⟩ True.intro rfl) ?_
  refine Ok.seqj (fun v1 => ⟨Cat.tab [], []⟩) (fun v1 => slices_IndexFunc_api_Span_api_Span__span_Has_1_J1 v1 = some r) ?_ ?_
  · refine Ok.seq ?_
    refine Ok.region Try.tok ?_
    refine ⟨_, List.length_map _, fun _ => ?_⟩
    refine Ok.wk (Wk.tab (L := [(0, (.s (List.map c_api_Span p_s))), (1, (.c (.func 32) [] [(.p [(vi p_f_c0_0)])])), (7, (vi ((p_s.length : Int)))), (8, (vi (0)))]) (H' := []) ⟨Le.refl _, Le.refl _, Le.refl _, Le.refl _, True.intro⟩ True.intro rfl) ?_
    refine Ok.block ?_
    refine Ok.loop (fun s1 => ⟨Cat.tab [(0, (.s (List.map c_api_Span p_s))), (1, (.c (.func 32) [] [(.p [(vi p_f_c0_0)])])), (7, (vi ((p_s.length : Int)))), (8, (vi s1))], []⟩) (slices_IndexFunc_api_Span_api_Span__span_Has_1_B1 p_s p_f_c0_0) (s0 := 0) h (Wk.tab ⟨Le.refl _, Le.refl _, Le.refl _, Le.refl _, True.intro⟩ True.intro rfl) ?_
    intro s1 y1 hB1 hy1
    unfold slices_IndexFunc_api_Span_api_Span__span_Has_1_B1 at hB1
    refine Ok.seq ?_
    refine Ok.region Try.tok ?_
    refine Ok.wk (Wk.tab (L := [(0, (.s (List.map c_api_Span p_s))), (1, (.c (.func 32) [] [(.p [(vi p_f_c0_0)])])), (7, (vi ((p_s.length : Int)))), (8, (vi s1)), (9, (vb ((decide (s1 < (p_s.length : Int))))))]) (H' := []) ⟨Le.refl _, Le.refl _, Le.refl _, Le.refl _, Le.refl _, True.intro⟩ True.intro rfl) ?_
    refine Ok.seq ?_
    refine Ok.cond (d := 9) (b := (decide (s1 < (p_s.length : Int)))) rfl hB1 (fun hb hB1 => ?_) fun hb hB1 => ?_
    · refine Ok.skip ?_
      refine Ok.seq ?_
      refine Ok.block ?_
      refine Ok.seq ?_
      refine Ok.region Try.tok ?_
      refine Ok.wk (Wk.tab (L := [(0, (.s (List.map c_api_Span p_s))), (1, (.c (.func 32) [] [(.p [(vi p_f_c0_0)])])), (5, (vi s1)), (7, (vi ((p_s.length : Int)))), (8, (vi s1))]) (H' := []) ⟨Le.refl _, Le.refl _, Le.refl _, Le.refl _, Le.refl _, True.intro⟩ True.intro rfl) ?_
      refine Ok.seq ?_
      refine Ok.region Try.tok ?_
      obtain ⟨x1, hx1, hB1⟩ := bindS hB1
      obtain ⟨x2, hx2, hB1⟩ := bindS hB1
      refine ⟨_, idx_nat hx1, _, idx_row hx1, ⟨_, rfl, ?_⟩⟩
      refine CallOk.call (w_span_Has_1 hx2) (LeL.refl _) ?_
      refine Ok.wk (Wk.tab (L := [(0, (.s (List.map c_api_Span p_s))), (1, (.c (.func 32) [] [(.p [(vi p_f_c0_0)])])), (5, (vi s1)), (7, (vi ((p_s.length : Int)))), (8, (vi s1)), (16, (vb x2))]) (H' := []) ⟨Le.refl _, Le.refl _, Le.refl _, Le.refl _, Le.refl _, Le.refl _, True.intro⟩ True.intro rfl) ?_
      refine Ok.cond (d := 16) (b := x2) rfl hB1 (fun hb hB1 => ?_) fun hb hB1 => ?_
      · refine Ok.seq ?_
        refine Ok.region Try.tok ?_
        refine Ok.wk (Wk.tab (L := [(4, (vi s1))]) (H' := []) ⟨Le.refl _, True.intro⟩ True.intro rfl) ?_
        refine Ok.ret ?_
        have hB1 := out_ret hB1 hy1
        cases hB1
        exact Fz.v
      · refine Ok.skip ?_
        refine Ok.region Try.tok ?_
        obtain ⟨hc1, hB1⟩ := chk_some hB1
        refine (Or.inl ⟨hc1, ?_⟩)
        exact ⟨_, (Option.some.inj hB1).symm, Wk.tab ⟨Le.refl _, Le.refl _, Le.refl _, Le.refl _, True.intro⟩ True.intro rfl⟩
    · refine Ok.exit ?_
      have hB1 := out_ret hB1 hy1
      exact ⟨_, hB1, Wk.tab True.intro True.intro rfl⟩
  intro v1 h
  unfold slices_IndexFunc_api_Span_api_Span__span_Has_1_J1 at h
  refine Ok.seq ?_
  refine Ok.region Try.tok ?_
  refine Ok.wk (Wk.tab (L := [(4, (vi ((-1))))]) (H' := []) ⟨Le.refl _, True.intro⟩ True.intro rfl) ?_
  refine Ok.ret ?_
  cases h
  exact Fz.v

theorem w_slices_ContainsFunc_api_Span_api_Span__span_Has_1 {p_s : List api_Span} {p_f_c0 : Int} {r : Bool} (h : slices_ContainsFunc_api_Span_api_Span__span_Has_1 p_s p_f_c0 = some r) : Pure Try.prog 31 [(.s (List.map c_api_Span p_s)), (.c (.func 32) [] [(.p [(vi p_f_c0)])])] (vb r) := by
  refine pure_of_ok (n := 9) (c := (Try.f31.body.getD .skip)) Try.tok Try.func31 (by kernel_rfl) rfl rfl (Nat.le_of_ble_eq_true rfl) ?_
  unfold slices_ContainsFunc_api_Span_api_Span__span_Has_1 at h
  refine Ok.wk (Wk.tab (L := [(0, (.s (List.map c_api_Span p_s))), (1, (.c (.func 32) [] [(.p [(vi p_f_c0)])]))]) (H' := []) ⟨Le.refl _, Le.refl _, True.intro⟩ True.intro rfl) ?_
  refine Ok.seq ?_
  refine Ok.region Try.tok ?_
  refine Ok.wk (Wk.tab (L := [(0, (.s (List.map c_api_Span p_s))), (1, (.c (.func 32) [] [(.p [(vi p_f_c0)])]))]) (H' := []) ⟨Le.refl _, Le.refl _, True.intro⟩ True.intro rfl) ?_
  refine Ok.seq ?_
  refine Ok.region Try.tok ?_
  obtain ⟨x1, hx1, h⟩ := bindS h
  refine CallOk.call (w_slices_IndexFunc_api_Span_api_Span__span_Has_1 hx1) (LeL.refl _) ?_
  refine Ok.wk (Wk.tab (L := [(4, (vb ((decide (x1 ≥ 0)))))]) (H' := []) ⟨Le.refl _, True.intro⟩ True.intro rfl) ?_
  refine Ok.ret ?_
  cases h
  exact Fz.v

theorem w_span_Has {p_l : List api_Span} {p_at : Int} {r : Bool} (h : span_Has p_l p_at = some r) : Pure Try.prog 20 [(.s (List.map c_api_Span p_l)), (vi p_at)] (vb r) := by
  refine pure_of_ok (n := 16) (c := (Try.f20.body.getD .skip)) Try.tok Try.func20 (by kernel_rfl) rfl rfl (Nat.le_of_ble_eq_true rfl) ?_
  unfold span_Has at h
  refine Ok.wk (Wk.tab (L := [(0, (.s (List.map c_api_Span p_l))), (1, (vi p_at))]) (H' := []) ⟨Le.refl _, Le.refl _, True.intro⟩ True.intro rfl) ?_
  refine Ok.seq ?_
  refine Ok.region Try.tok ?_
  refine Ok.wk (Wk.tab (L := [(0, (.s (List.map c_api_Span p_l))), (3, (.b 3 0))]) (H' := [(3, .box [(vi p_at)])]) ⟨Le.refl _, Le.refl _, True.intro⟩ ⟨⟨_, rfl, .refl _⟩, True.intro⟩ rfl) ?_
  obtain ⟨v1, hv1, h⟩ := bindS h
  refine Ok.seqw ⟨Cat.tab [(4, (vb v1))], []⟩ ?_ ?_
  · refine Ok.region Try.tok ?_
    refine ⟨_, rfl, ?_⟩
    obtain ⟨c1, hg1, hv1⟩ := bindS hv1
    refine Br.ite hg1 (fun hb hg1 => ?_) fun hb hg1 => ?_
    · refine ⟨_, rfl, ?_⟩
      cases hg1
      obtain ⟨c2, hg2, hv1⟩ := bindS hv1
      refine Br.ite hg2 (fun hb hg2 => ?_) fun hb hg2 => ?_
      · obtain ⟨x1, hx1, hg2⟩ := bindS hg2
        refine CallOk.borrow (w_slices_ContainsFunc_api_Span_api_Span__span_Has_1 hx1) (.cons Fz.s (.cons (Fz.c .nil (.cons (Fz.b rfl rfl) .nil)) (.nil))) rfl ?_
        cases hg2
        cases hv1
        exact Wk.tab ⟨Le.refl _, True.intro⟩ True.intro rfl
      · cases hg2
        cases hv1
        exact Wk.tab ⟨Le.refl _, True.intro⟩ True.intro rfl
    · cases hg1
      obtain ⟨c2, hg3, hv1⟩ := bindS hv1
      replace hg3 := iteF hg3
      cases hg3
      cases hv1
      exact Wk.tab ⟨Le.refl _, True.intro⟩ True.intro rfl
  refine Ok.ret ?_
  cases h
  exact Fz.v

theorem w_span_Size {p_l : List api_Span} {r : Int} (h : span_Size p_l = some r) : Pure Try.prog 22 [(.s (List.map c_api_Span p_l))] (vi r) := by
  refine pure_of_ok (n := 22) (c := (Try.f22.body.getD .skip)) Try.tok Try.func22 (by kernel_rfl) rfl rfl (Nat.le_of_ble_eq_true rfl) ?_
  unfold span_Size at h
  refine Ok.wk (Wk.tab (L := [(0, (.s (List.map c_api_Span p_l)))]) (H' := []) ⟨Le.refl _, True.intro⟩ True.intro rfl) ?_
  refine Ok.seq ?_
  refine Ok.region Try.tok ?_
  refine Ok.wk (Wk.tab (L := [(0, (.s (List.map c_api_Span p_l)))]) (H' := []) ⟨Le.refl _, True.intro⟩ True.intro rfl) ?_
  refine Ok.seq ?_
  refine Ok.region Try.tok ?_
  refine Ok.wk (Wk.tab (L := [(0, (.s (List.map c_api_Span p_l))), (3, (vi (0)))]) (H' := []) ⟨Le.refl _, Le.refl _, True.intro⟩ True.intro rfl) ?_
  obtain ⟨v1, hv1, h⟩ := bindS h
  refine Ok.seqw ⟨Cat.tab [(3, (vi v1))], []⟩ ?_ ?_
  · refine Ok.seq ?_
    refine Ok.region Try.tok ?_
    obtain ⟨x1, hx1, hv1⟩ := bindS hv1
    refine CallOk.call (w_span_Norm hx1) (LeL.refl _) ?_
    refine ⟨_, List.length_map _, fun _ => ?_⟩
    refine Ok.wk (Wk.tab (L := [(3, (vi (0))), (7, (.s (List.map c_api_Span x1))), (8, (vi ((x1.length : Int)))), (9, (vi (0)))]) (H' := []) ⟨Le.refl _, Le.refl _, Le.refl _, Le.refl _, True.intro⟩ True.intro rfl) ?_
    refine Ok.block ?_
    refine Ok.loop (fun s1 => ⟨Cat.tab [(3, (vi s1.1)), (7, (.s (List.map c_api_Span x1))), (8, (vi ((x1.length : Int)))), (9, (vi s1.2))], []⟩) (span_Size_B1 x1) (s0 := (0, 0)) hv1 (Wk.tab ⟨Le.refl _, Le.refl _, Le.refl _, Le.refl _, True.intro⟩ True.intro rfl) ?_
    intro s1 y1 hB1 hy1
    unfold span_Size_B1 at hB1
    refine Ok.seq ?_
    refine Ok.region Try.tok ?_
    refine Ok.wk (Wk.tab (L := [(3, (vi s1.1)), (7, (.s (List.map c_api_Span x1))), (8, (vi ((x1.length : Int)))), (9, (vi s1.2)), (10, (vb ((decide (s1.2 < (x1.length : Int))))))]) (H' := []) ⟨Le.refl _, Le.refl _, Le.refl _, Le.refl _, Le.refl _, True.intro⟩ True.intro rfl) ?_
    refine Ok.seq ?_
    refine Ok.cond (d := 10) (b := (decide (s1.2 < (x1.length : Int)))) rfl hB1 (fun hb hB1 => ?_) fun hb hB1 => ?_
    · refine Ok.skip ?_
      refine Ok.seq ?_
      refine Ok.block ?_
      refine Ok.seq ?_
      refine Ok.region Try.tok ?_
      obtain ⟨x2, hx2, hB1⟩ := bindS hB1
      refine ⟨_, idx_nat hx2, _, idx_row hx2, ⟨_, rfl, ⟨_, rfl, ?_⟩⟩⟩
      refine Ok.wk (Wk.tab (L := [(3, (vi s1.1)), (5, (.b 5 0)), (7, (.s (List.map c_api_Span x1))), (8, (vi ((x1.length : Int)))), (9, (vi s1.2))]) (H' := [(5, .box [(vi x2.From), (vi x2.To)])]) ⟨Le.refl _, Le.refl _, Le.refl _, Le.refl _, Le.refl _, True.intro⟩ ⟨⟨_, rfl, .refl _⟩, True.intro⟩ rfl) ?_
      refine Ok.region Try.tok ?_
      obtain ⟨hc1, hB1⟩ := chk_some hB1
      obtain ⟨hc2, hB1⟩ := chk_some hB1
      refine ⟨_, rfl, ⟨_, rfl, (Or.inl ⟨hc1, (Or.inl ⟨hc2, ?_⟩)⟩)⟩⟩
      refine Ok.wk (Wk.tab (L := [(3, (vi ((s1.1 + (x2.To - x2.From))))), (7, (.s (List.map c_api_Span x1))), (8, (vi ((x1.length : Int)))), (9, (vi s1.2))]) (H' := []) ⟨Le.refl _, Le.refl _, Le.refl _, Le.refl _, True.intro⟩ True.intro rfl) ?_
      refine Ok.region Try.tok ?_
      obtain ⟨hc3, hB1⟩ := chk_some hB1
      refine (Or.inl ⟨hc3, ?_⟩)
      exact ⟨_, (Option.some.inj hB1).symm, Wk.tab ⟨Le.refl _, Le.refl _, Le.refl _, Le.refl _, True.intro⟩ True.intro rfl⟩
    · refine Ok.exit ?_
      have hB1 := out_ret hB1 hy1
      cases hB1
      exact Wk.tab ⟨Le.refl _, True.intro⟩ True.intro rfl
  refine Ok.seq ?_
  refine Ok.region Try.tok ?_
  refine Ok.wk (Wk.tab (L := [(2, (vi v1))]) (H' := []) ⟨Le.refl _, True.intro⟩ True.intro rfl) ?_
  refine Ok.ret ?_
  cases h
  exact Fz.v

theorem w_law21_head {r : Bool} (h : law21_head = some r) : Pure Try.prog 9 [] (vb r) := by
  refine pure_of_ok (n := 65) (c := (Try.f9.body.getD .skip)) Try.tok Try.func9 (by kernel_rfl) rfl rfl (Nat.le_of_ble_eq_true rfl) ?_
  unfold law21_head at h
  refine Ok.wk (Wk.tab (L := []) (H' := []) True.intro True.intro rfl) ?_
  refine Ok.seq ?_
  refine Ok.region Try.tok ?_
  refine Ok.wk (Wk.tab (L := []) (H' := []) True.intro True.intro rfl) ?_
  refine Ok.seq ?_
  refine Ok.region Try.tok ?_
  refine Or.inl ?_
  refine Ok.wk (Wk.tab (L := [(1, (.s (List.map c_api_Span ([(⟨3, 5⟩ : api_Span), (⟨1, 3⟩ : api_Span), (⟨9, 9⟩ : api_Span)]))))]) (H' := []) ⟨Le.refl _, True.intro⟩ True.intro rfl) ?_
  refine Ok.seq ?_
  refine Ok.region Try.tok ?_
  refine Or.inl ?_
  refine Ok.wk (Wk.tab (L := [(1, (.s (List.map c_api_Span ([(⟨3, 5⟩ : api_Span), (⟨1, 3⟩ : api_Span), (⟨9, 9⟩ : api_Span)])))), (2, (.s (List.map c_api_Span ([(⟨0, 4⟩ : api_Span), (⟨6, 8⟩ : api_Span)]))))]) (H' := []) ⟨Le.refl _, Le.refl _, True.intro⟩ True.intro rfl) ?_
  obtain ⟨v1, hv1, h⟩ := bindS h
  refine Ok.seqw ⟨Cat.tab [(0, (vb v1))], []⟩ ?_ ?_
  · refine Ok.region Try.tok ?_
    obtain ⟨x1, hx1, hv1⟩ := bindS hv1
    refine CallOk.norm (L := [(1, (.s (List.map c_api_Span ([(⟨3, 5⟩ : api_Span), (⟨1, 3⟩ : api_Span), (⟨9, 9⟩ : api_Span)])))), (2, (.s (List.map c_api_Span ([(⟨0, 4⟩ : api_Span), (⟨6, 8⟩ : api_Span)])))), (10, (.s (List.map c_api_Span ([(⟨3, 5⟩ : api_Span), (⟨1, 3⟩ : api_Span), (⟨9, 9⟩ : api_Span)]))))]) (H' := []) (LeL.refl _) ⟨Le.refl _, Le.refl _, Le.refl _, True.intro⟩ True.intro rfl (CallOk.call (w_span_Norm hx1) (LeL.refl _) ?_)
    obtain ⟨x2, hx2, hv1⟩ := bindS hv1
    refine Or.inl ?_
    refine CallOk.norm (L := [(1, (.s (List.map c_api_Span ([(⟨3, 5⟩ : api_Span), (⟨1, 3⟩ : api_Span), (⟨9, 9⟩ : api_Span)])))), (2, (.s (List.map c_api_Span ([(⟨0, 4⟩ : api_Span), (⟨6, 8⟩ : api_Span)])))), (11, (.s (List.map c_api_Span x1))), (13, (.s (List.map c_api_Span ([(⟨1, 5⟩ : api_Span)]))))]) (H' := []) (LeL.refl _) ⟨Le.refl _, Le.refl _, Le.refl _, Le.refl _, True.intro⟩ True.intro rfl (CallOk.call (w_ref21_Same hx2) (LeL.refl _) ?_)
    obtain ⟨c1, hg1, hv1⟩ := bindS hv1
    refine Br.ite hg1 (fun hb hg1 => ?_) fun hb hg1 => ?_
    · obtain ⟨x3, hx3, hg1⟩ := bindS hg1
      refine Or.inl (Or.inl ?_)
      refine CallOk.norm (L := [(1, (.s (List.map c_api_Span ([(⟨3, 5⟩ : api_Span), (⟨1, 3⟩ : api_Span), (⟨9, 9⟩ : api_Span)])))), (2, (.s (List.map c_api_Span ([(⟨0, 4⟩ : api_Span), (⟨6, 8⟩ : api_Span)])))), (15, .v (.bool true)), (17, (.s (List.map c_api_Span ([(⟨0, 10⟩ : api_Span)])))), (19, (.s (List.map c_api_Span ([(⟨3, 5⟩ : api_Span)]))))]) (H' := []) (LeL.refl _) ⟨Le.refl _, Le.refl _, Le.refl _, Le.refl _, Le.refl _, True.intro⟩ True.intro rfl (CallOk.call (w_span_Cut hx3) (LeL.refl _) ?_)
      obtain ⟨x4, hx4, hg1⟩ := bindS hg1
      refine Or.inl ?_
      refine CallOk.norm (L := [(1, (.s (List.map c_api_Span ([(⟨3, 5⟩ : api_Span), (⟨1, 3⟩ : api_Span), (⟨9, 9⟩ : api_Span)])))), (2, (.s (List.map c_api_Span ([(⟨0, 4⟩ : api_Span), (⟨6, 8⟩ : api_Span)])))), (15, .v (.bool true)), (20, (.s (List.map c_api_Span x3))), (23, (.s (List.map c_api_Span ([(⟨0, 3⟩ : api_Span), (⟨5, 10⟩ : api_Span)]))))]) (H' := []) (LeL.refl _) ⟨Le.refl _, Le.refl _, Le.refl _, Le.refl _, Le.refl _, True.intro⟩ True.intro rfl (CallOk.call (w_ref21_Same hx4) (LeL.refl _) ?_)
      cases hg1
      obtain ⟨c2, hg2, hv1⟩ := bindS hv1
      refine Br.ite hg2 (fun hb hg2 => ?_) fun hb hg2 => ?_
      · obtain ⟨x5, hx5, hg2⟩ := bindS hg2
        refine Or.inl ?_
        refine CallOk.norm (L := [(1, (.s (List.map c_api_Span ([(⟨3, 5⟩ : api_Span), (⟨1, 3⟩ : api_Span), (⟨9, 9⟩ : api_Span)])))), (2, (.s (List.map c_api_Span ([(⟨0, 4⟩ : api_Span), (⟨6, 8⟩ : api_Span)])))), (26, .v (.bool true)), (27, (.s (List.map c_api_Span ([(⟨0, 4⟩ : api_Span), (⟨6, 8⟩ : api_Span)])))), (29, (.s (List.map c_api_Span ([(⟨3, 7⟩ : api_Span)]))))]) (H' := []) (LeL.refl _) ⟨Le.refl _, Le.refl _, Le.refl _, Le.refl _, Le.refl _, True.intro⟩ True.intro rfl (CallOk.call (w_span_Meet hx5) (LeL.refl _) ?_)
        obtain ⟨x6, hx6, hg2⟩ := bindS hg2
        refine Or.inl ?_
        refine CallOk.norm (L := [(1, (.s (List.map c_api_Span ([(⟨3, 5⟩ : api_Span), (⟨1, 3⟩ : api_Span), (⟨9, 9⟩ : api_Span)])))), (2, (.s (List.map c_api_Span ([(⟨0, 4⟩ : api_Span), (⟨6, 8⟩ : api_Span)])))), (26, .v (.bool true)), (30, (.s (List.map c_api_Span x5))), (33, (.s (List.map c_api_Span ([(⟨3, 4⟩ : api_Span), (⟨6, 7⟩ : api_Span)]))))]) (H' := []) (LeL.refl _) ⟨Le.refl _, Le.refl _, Le.refl _, Le.refl _, Le.refl _, True.intro⟩ True.intro rfl (CallOk.call (w_ref21_Same hx6) (LeL.refl _) ?_)
        cases hg2
        obtain ⟨c3, hg3, hv1⟩ := bindS hv1
        refine Br.ite hg3 (fun hb hg3 => ?_) fun hb hg3 => ?_
        · obtain ⟨x7, hx7, hg3⟩ := bindS hg3
          refine Or.inl ?_
          refine CallOk.norm (L := [(1, (.s (List.map c_api_Span ([(⟨3, 5⟩ : api_Span), (⟨1, 3⟩ : api_Span), (⟨9, 9⟩ : api_Span)])))), (36, .v (.bool true)), (37, (.s (List.map c_api_Span ([(⟨0, 4⟩ : api_Span), (⟨6, 8⟩ : api_Span)])))), (39, (.s (List.map c_api_Span ([(⟨4, 6⟩ : api_Span)]))))]) (H' := []) (LeL.refl _) ⟨Le.refl _, Le.refl _, Le.refl _, Le.refl _, True.intro⟩ True.intro rfl (CallOk.call (w_span_Add hx7) (LeL.refl _) ?_)
          obtain ⟨x8, hx8, hg3⟩ := bindS hg3
          refine Or.inl ?_
          refine CallOk.norm (L := [(1, (.s (List.map c_api_Span ([(⟨3, 5⟩ : api_Span), (⟨1, 3⟩ : api_Span), (⟨9, 9⟩ : api_Span)])))), (36, .v (.bool true)), (40, (.s (List.map c_api_Span x7))), (42, (.s (List.map c_api_Span ([(⟨0, 8⟩ : api_Span)]))))]) (H' := []) (LeL.refl _) ⟨Le.refl _, Le.refl _, Le.refl _, Le.refl _, True.intro⟩ True.intro rfl (CallOk.call (w_ref21_Same hx8) (LeL.refl _) ?_)
          cases hg3
          obtain ⟨c4, hg4, hv1⟩ := bindS hv1
          refine Br.ite hg4 (fun hb hg4 => ?_) fun hb hg4 => ?_
          · obtain ⟨x9, hx9, hg4⟩ := bindS hg4
            refine CallOk.norm (L := [(1, (.s (List.map c_api_Span ([(⟨3, 5⟩ : api_Span), (⟨1, 3⟩ : api_Span), (⟨9, 9⟩ : api_Span)])))), (45, .v (.bool true)), (46, (.s (List.map c_api_Span ([(⟨3, 5⟩ : api_Span), (⟨1, 3⟩ : api_Span), (⟨9, 9⟩ : api_Span)]))))]) (H' := []) (LeL.refl _) ⟨Le.refl _, Le.refl _, Le.refl _, True.intro⟩ True.intro rfl (CallOk.call (w_span_Has hx9) (LeL.refl _) ?_)
            cases hg4
            obtain ⟨c5, hg5, hv1⟩ := bindS hv1
            refine Br.ite hg5 (fun hb hg5 => ?_) fun hb hg5 => ?_
            · obtain ⟨x10, hx10, hg5⟩ := bindS hg5
              refine CallOk.norm (L := [(1, (.s (List.map c_api_Span ([(⟨3, 5⟩ : api_Span), (⟨1, 3⟩ : api_Span), (⟨9, 9⟩ : api_Span)])))), (49, .v (.bool true)), (50, (.s (List.map c_api_Span ([(⟨3, 5⟩ : api_Span), (⟨1, 3⟩ : api_Span), (⟨9, 9⟩ : api_Span)]))))]) (H' := []) (LeL.refl _) ⟨Le.refl _, Le.refl _, Le.refl _, True.intro⟩ True.intro rfl (CallOk.call (w_span_Has hx10) (LeL.refl _) ?_)
              cases hg5
              obtain ⟨c6, hg6, hv1⟩ := bindS hv1
              refine Br.ite hg6 (fun hb hg6 => ?_) fun hb hg6 => ?_
              · obtain ⟨x11, hx11, hg6⟩ := bindS hg6
                refine Or.inl ?_
                refine CallOk.norm (L := [(1, (.s (List.map c_api_Span ([(⟨3, 5⟩ : api_Span), (⟨1, 3⟩ : api_Span), (⟨9, 9⟩ : api_Span)])))), (54, .v (.bool true)), (56, (.s (List.map c_api_Span ([(⟨(-5), 5⟩ : api_Span)]))))]) (H' := []) (LeL.refl _) ⟨Le.refl _, Le.refl _, Le.refl _, True.intro⟩ True.intro rfl (CallOk.call (w_span_Has hx11) (LeL.refl _) ?_)
                cases hg6
                obtain ⟨c7, hg7, hv1⟩ := bindS hv1
                refine Br.ite hg7 (fun hb hg7 => ?_) fun hb hg7 => ?_
                · obtain ⟨x12, hx12, hg7⟩ := bindS hg7
                  refine CallOk.norm (L := [(60, .v (.bool true)), (61, (.s (List.map c_api_Span ([(⟨3, 5⟩ : api_Span), (⟨1, 3⟩ : api_Span), (⟨9, 9⟩ : api_Span)]))))]) (H' := []) (LeL.refl _) ⟨Le.refl _, Le.refl _, True.intro⟩ True.intro rfl (CallOk.call (w_span_Size hx12) (LeL.refl _) ?_)
                  cases hg7
                  cases hv1
                  exact Wk.tab ⟨Le.refl _, True.intro⟩ True.intro rfl
                · cases hg7
                  cases hv1
                  exact Wk.tab ⟨Le.refl _, True.intro⟩ True.intro rfl
              · cases hg6
                obtain ⟨c7, hg8, hv1⟩ := bindS hv1
                replace hg8 := iteF hg8
                cases hg8
                cases hv1
                exact Wk.tab ⟨Le.refl _, True.intro⟩ True.intro rfl
            · cases hg5
              obtain ⟨c6, hg9, hv1⟩ := bindS hv1
              replace hg9 := iteF hg9
              cases hg9
              obtain ⟨c7, hg10, hv1⟩ := bindS hv1
              replace hg10 := iteF hg10
              cases hg10
              cases hv1
              exact Wk.tab ⟨Le.refl _, True.intro⟩ True.intro rfl
          · cases hg4
            obtain ⟨c5, hg11, hv1⟩ := bindS hv1
            replace hg11 := iteF hg11
            cases hg11
            obtain ⟨c6, hg12, hv1⟩ := bindS hv1
            replace hg12 := iteF hg12
            cases hg12
            obtain ⟨c7, hg13, hv1⟩ := bindS hv1
            replace hg13 := iteF hg13
            cases hg13
            cases hv1
            exact Wk.tab ⟨Le.refl _, True.intro⟩ True.intro rfl
        · cases hg3
          obtain ⟨c4, hg14, hv1⟩ := bindS hv1
          replace hg14 := iteF hg14
          cases hg14
          obtain ⟨c5, hg15, hv1⟩ := bindS hv1
          replace hg15 := iteF hg15
          cases hg15
          obtain ⟨c6, hg16, hv1⟩ := bindS hv1
          replace hg16 := iteF hg16
          cases hg16
          obtain ⟨c7, hg17, hv1⟩ := bindS hv1
          replace hg17 := iteF hg17
          cases hg17
          cases hv1
          exact Wk.tab ⟨Le.refl _, True.intro⟩ True.intro rfl
      · cases hg2
        obtain ⟨c3, hg18, hv1⟩ := bindS hv1
        replace hg18 := iteF hg18
        cases hg18
        obtain ⟨c4, hg19, hv1⟩ := bindS hv1
        replace hg19 := iteF hg19
        cases hg19
        obtain ⟨c5, hg20, hv1⟩ := bindS hv1
        replace hg20 := iteF hg20
        cases hg20
        obtain ⟨c6, hg21, hv1⟩ := bindS hv1
        replace hg21 := iteF hg21
        cases hg21
        obtain ⟨c7, hg22, hv1⟩ := bindS hv1
        replace hg22 := iteF hg22
        cases hg22
        cases hv1
        exact Wk.tab ⟨Le.refl _, True.intro⟩ True.intro rfl
    · cases hg1
      obtain ⟨c2, hg23, hv1⟩ := bindS hv1
      replace hg23 := iteF hg23
      cases hg23
      obtain ⟨c3, hg24, hv1⟩ := bindS hv1
      replace hg24 := iteF hg24
      cases hg24
      obtain ⟨c4, hg25, hv1⟩ := bindS hv1
      replace hg25 := iteF hg25
      cases hg25
      obtain ⟨c5, hg26, hv1⟩ := bindS hv1
      replace hg26 := iteF hg26
      cases hg26
      obtain ⟨c6, hg27, hv1⟩ := bindS hv1
      replace hg27 := iteF hg27
      cases hg27
      obtain ⟨c7, hg28, hv1⟩ := bindS hv1
      replace hg28 := iteF hg28
      cases hg28
      cases hv1
      exact Wk.tab ⟨Le.refl _, True.intro⟩ True.intro rfl
  refine Ok.ret ?_
  cases h
  exact Fz.v

theorem wo_ref21_Few {p_l : List api_Span} {r : (List api_Span)} (h : ref21_Few p_l = some r) : POwn Try.prog 10 [(.s (List.map c_api_Span p_l))] 33 2 (List.map c_api_Span r) := by
  refine pown_of_ok (n := 10) (c := (Try.f10.body.getD .skip)) Try.tok Try.func10 (by kernel_rfl) rfl rfl (Nat.le_of_ble_eq_true rfl) ?_
  unfold ref21_Few at h
  refine Ok.wk (Wk.tab (L := [(0, (.s (List.map c_api_Span p_l)))]) (H' := []) ⟨Le.refl _, True.intro⟩ True.intro rfl) ?_
  refine Ok.seq ?_
  refine Ok.region Try.tok ?_
  refine Ok.wk (Wk.tab (L := [(0, (.s (List.map c_api_Span p_l)))]) (H' := []) ⟨Le.refl _, True.intro⟩ True.intro rfl) ?_
  refine Ok.seq ?_
  refine Ok.region Try.tok ?_
  obtain ⟨hc1, h⟩ := chk_some h
  obtain ⟨hc2, h⟩ := chk_some h
  refine Or.inr ⟨_, List.length_map _, fun _ => ⟨_, rfl, ⟨_, sl_nat hc1.1, Nat.zero_le _, sl_len hc1, rowsK (f := c_api_Span) (K := 2) (fun _ => rfl) p_l, _, sl_take _ _ _, ⟨rowsLen_map (f := c_api_Span) (n := 2) (fun _ => rfl) ((p_l.take ((min ((p_l.length : Int)) (40))).toNat)), app_b2 (f := c_api_Span) (l := (([] : List api_Span))) (l' := ((p_l.take ((min ((p_l.length : Int)) (40))).toNat))) hc2, _, (List.map_append (f := c_api_Span) (l₁ := (([] : List api_Span))) (l₂ := ((p_l.take ((min ((p_l.length : Int)) (40))).toNat)))).symm, ?_⟩⟩⟩⟩
  refine Ok.wk (Wk.tab (L := [(2, (.o 3))]) (H' := [(3, .own 33 2 (List.map c_api_Span ((([] : List api_Span) ++ (p_l.take ((min ((p_l.length : Int)) (40))).toNat)))))]) ⟨Le.refl _, True.intro⟩ ⟨⟨_, rfl, .refl _⟩, True.intro⟩ rfl) ?_
  refine Ok.ret ?_
  cases h
  exact (.inr ⟨_, rfl, rfl⟩)
theorem w_ref21_Few {p_l : List api_Span} {r : (List api_Span)} (h : ref21_Few p_l = some r) : Pure Try.prog 10 [(.s (List.map c_api_Span p_l))] (.s (List.map c_api_Span r)) := (wo_ref21_Few h).pure

theorem w_law21_SpanOnly {p_x : List api_Span} {p_y : List api_Span} {r : Bool} (h : law21_SpanOnly p_x p_y = some r) : Pure Try.prog 8 [(.s (List.map c_api_Span p_x)), (.s (List.map c_api_Span p_y))] (vb r) := by
  refine pure_of_ok (n := 45) (c := (Try.f8.body.getD .skip)) Try.tok Try.func8 (by kernel_rfl) rfl rfl (Nat.le_of_ble_eq_true rfl) ?_
  unfold law21_SpanOnly at h
  refine Ok.wk (Wk.tab (L := [(0, (.s (List.map c_api_Span p_x))), (1, (.s (List.map c_api_Span p_y)))]) (H' := []) ⟨Le.refl _, Le.refl _, True.intro⟩ True.intro rfl) ?_
  refine Ok.seq ?_
  refine Ok.region Try.tok ?_
  refine Ok.wk (Wk.tab (L := [(0, (.s (List.map c_api_Span p_x))), (1, (.s (List.map c_api_Span p_y)))]) (H' := []) ⟨Le.refl _, Le.refl _, True.intro⟩ True.intro rfl) ?_
  refine Ok.seq ?_
  refine Ok.region Try.tok ?_
  obtain ⟨x1, hx1, h⟩ := bindS h
  refine CallOk.call (w_law21_head hx1) (LeL.refl _) ?_
  refine Ok.wk (Wk.tab (L := [(0, (.s (List.map c_api_Span p_x))), (1, (.s (List.map c_api_Span p_y))), (5, (vb x1))]) (H' := []) ⟨Le.refl _, Le.refl _, Le.refl _, True.intro⟩ True.intro rfl) ?_
  refine Ok.seq ?_
  refine Ok.region Try.tok ?_
  obtain ⟨x2, hx2, h⟩ := bindS h
  refine CallOk.call (w_ref21_Few hx2) (LeL.refl _) ?_
  refine Ok.wk (Wk.tab (L := [(1, (.s (List.map c_api_Span p_y))), (5, (vb x1)), (6, (.s (List.map c_api_Span x2)))]) (H' := []) ⟨Le.refl _, Le.refl _, Le.refl _, True.intro⟩ True.intro rfl) ?_
  refine Ok.seq ?_
  refine Ok.region Try.tok ?_
  obtain ⟨x3, hx3, h⟩ := bindS h
  refine CallOk.call (w_ref21_Few hx3) (LeL.refl _) ?_
  refine Ok.wk (Wk.tab (L := [(5, (vb x1)), (6, (.s (List.map c_api_Span x2))), (7, (.s (List.map c_api_Span x3)))]) (H' := []) ⟨Le.refl _, Le.refl _, Le.refl _, True.intro⟩ True.intro rfl) ?_
  refine Ok.seq ?_
  refine Ok.region Try.tok ?_
  obtain ⟨x4, hx4, h⟩ := bindS h
  refine CallOk.call (w_span_Norm hx4) (LeL.refl _) ?_
  obtain ⟨x5, hx5, h⟩ := bindS h
  refine CallOk.call (w_span_Norm hx5) (LeL.refl _) ?_
  obtain ⟨x6, hx6, h⟩ := bindS h
  refine CallOk.call (w_ref21_Same hx6) (LeL.refl _) ?_
  refine Ok.wk (Wk.tab (L := [(5, (vb x1)), (6, (.s (List.map c_api_Span x2))), (7, (.s (List.map c_api_Span x3))), (8, (vb x6))]) (H' := []) ⟨Le.refl _, Le.refl _, Le.refl _, Le.refl _, True.intro⟩ True.intro rfl) ?_
  obtain ⟨v1, hv1, h⟩ := bindS h
  refine Ok.seqw ⟨Cat.tab [(4, (vb v1))], []⟩ ?_ ?_
  · refine Ok.region Try.tok ?_
    obtain ⟨c1, hg1, hv1⟩ := bindS hv1
    refine Br.ite hg1 (fun hb hg1 => ?_) fun hb hg1 => ?_
    · obtain ⟨x7, hx7, hg1⟩ := bindS hg1
      refine CallOk.norm (L := [(6, (.s (List.map c_api_Span x2))), (7, (.s (List.map c_api_Span x3))), (8, (vb x6)), (20, .v (.bool true)), (21, (vb x6)), (22, (.s (List.map c_api_Span x2))), (23, (.s (List.map c_api_Span x3)))]) (H' := []) (LeL.refl _) ⟨Le.refl _, Le.refl _, Le.refl _, Le.refl _, Le.refl _, Le.refl _, Le.refl _, True.intro⟩ True.intro rfl (CallOk.call (w_span_Cut hx7) (LeL.refl _) ?_)
      obtain ⟨x8, hx8, hg1⟩ := bindS hg1
      refine ⟨_, List.length_map _, fun _ => ?_⟩
      refine CallOk.norm (L := [(6, (.s (List.map c_api_Span x2))), (7, (.s (List.map c_api_Span x3))), (8, (vb x6)), (20, .v (.bool true)), (21, (vb x6)), (25, (vi ((x7.length : Int)))), (26, (.s (List.map c_api_Span x3))), (27, (.s (List.map c_api_Span x2)))]) (H' := []) (LeL.refl _) ⟨Le.refl _, Le.refl _, Le.refl _, Le.refl _, Le.refl _, Le.refl _, Le.refl _, Le.refl _, True.intro⟩ True.intro rfl (CallOk.call (w_span_Cut hx8) (LeL.refl _) ?_)
      obtain ⟨hc1, hg1⟩ := chk_some hg1
      refine ⟨_, List.length_map _, fun _ => (Or.inl ⟨hc1, ?_⟩)⟩
      cases hg1
      obtain ⟨c3, hg2, hv1⟩ := bindS hv1
      refine Br.ite hg2 (fun hb hg2 => ?_) fun hb hg2 => ?_
      · obtain ⟨c2, hg3, hg2⟩ := bindS hg2
        refine Br.itf hg3 (fun hb hg3 => ?_) fun hb hg3 => ?_
        · cases hg3
          cases hg2
          cases hv1
          exact Wk.tab ⟨Le.refl _, True.intro⟩ True.intro rfl
        · obtain ⟨x9, hx9, hg3⟩ := bindS hg3
          refine CallOk.norm (L := [(7, (.s (List.map c_api_Span x3))), (34, .v (.bool true)), (37, .v (.bool false)), (38, (.s (List.map c_api_Span x2)))]) (H' := []) (LeL.refl _) ⟨Le.refl _, Le.refl _, Le.refl _, Le.refl _, True.intro⟩ True.intro rfl (CallOk.call (w_span_Size hx9) (LeL.refl _) ?_)
          obtain ⟨x10, hx10, hg3⟩ := bindS hg3
          refine CallOk.norm (L := [(34, .v (.bool true)), (37, .v (.bool false)), (39, (vi x9)), (40, (.s (List.map c_api_Span x3)))]) (H' := []) (LeL.refl _) ⟨Le.refl _, Le.refl _, Le.refl _, Le.refl _, True.intro⟩ True.intro rfl (CallOk.call (w_span_Size hx10) (LeL.refl _) ?_)
          cases hg3
          cases hg2
          cases hv1
          exact Wk.tab ⟨Le.refl _, True.intro⟩ True.intro rfl
      · cases hg2
        cases hv1
        exact Wk.tab ⟨Le.refl _, True.intro⟩ True.intro rfl
    · cases hg1
      obtain ⟨c3, hg4, hv1⟩ := bindS hv1
      replace hg4 := iteF hg4
      cases hg4
      cases hv1
      exact Wk.tab ⟨Le.refl _, True.intro⟩ True.intro rfl
  refine Ok.ret ?_
  cases h
  exact Fz.v

end Go.Proofs
