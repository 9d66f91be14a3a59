/- The walks of this seat beside the plain programs, part 2. No condition. -/
import Derived.Test.YthhoomhekolbnaaXLeaseTellsEn
import Derived.Test.YthhoomhekolbnaaXLeaseTellsWk0
import Derived.Test.YthhoomhekolbnaaXLeaseTellsWk1
namespace Go.Proofs
set_option linter.all false
open Go Go.Cat
variable [M : Mono]
set_option maxRecDepth 100000

theorem w_ref22_Ask {p_l : List api_Lease} {p_now : Int} {p_q : api_Lease} {p_many : Int} {r : (List api_Lease) × Bool × (List Int)} (h : ref22_Ask p_l p_now p_q p_many = some r) : Pure Try.prog 14 [(.s (List.map c_api_Lease p_l)), (vi p_now), (.a [(vi p_q.Client), (vi p_q.Ino), (vi p_q.Kind), (vi p_q.Span.From), (vi p_q.Span.To), (vi p_q.Until), (vi p_q.Epoch)]), (vi p_many)] (.t [(.s (List.map c_api_Lease r.1)), (vb r.2.1), (.s (List.map Go.Cat.encI r.2.2))]) := by
  refine pure_of_ok (n := 94) (c := (Try.f14.body.getD .skip)) Try.tok Try.func14 (by kernel_rfl) rfl rfl (Nat.le_of_ble_eq_true rfl) ?_
  unfold ref22_Ask at h
  refine Ok.wk (Wk.tab (L := [(0, (.s (List.map c_api_Lease p_l))), (1, (vi p_now)), (2, (.a [(vi p_q.Client), (vi p_q.Ino), (vi p_q.Kind), (vi p_q.Span.From), (vi p_q.Span.To), (vi p_q.Until), (vi p_q.Epoch)])), (3, (vi p_many))]) (H' := []) ⟨Le.refl _, Le.refl _, Le.refl _, Le.refl _, True.intro⟩ True.intro rfl) ?_
  refine Ok.seq ?_
  refine Ok.region Try.tok ?_
  refine Ok.wk (Wk.tab (L := [(0, (.s (List.map c_api_Lease p_l))), (1, (vi p_now)), (3, (vi p_many)), (6, (.b 6 0))]) (H' := [(6, .box [(vi p_q.Client), (vi p_q.Ino), (vi p_q.Kind), (vi p_q.Span.From), (vi p_q.Span.To), (vi p_q.Until), (vi p_q.Epoch)])]) ⟨Le.refl _, Le.refl _, Le.refl _, Le.refl _, True.intro⟩ ⟨⟨_, rfl, .refl _⟩, True.intro⟩ rfl) ?_
  refine Ok.seq ?_
  refine Ok.region Try.tok ?_
  refine ⟨_, rfl, ?_⟩
  refine Ok.wk (Wk.tab (L := [(0, (.s (List.map c_api_Lease p_l))), (1, (vi p_now)), (3, (vi p_many)), (6, (.b 6 0))]) (H' := [(6, .box [(vi p_q.Client), (vi p_q.Ino), (vi p_q.Kind), (vi p_q.Span.From), (vi p_q.Span.To), (vi (0)), (vi p_q.Epoch)])]) ⟨Le.refl _, Le.refl _, Le.refl _, Le.refl _, True.intro⟩ ⟨⟨_, rfl, .refl _⟩, True.intro⟩ rfl) ?_
  refine Ok.seq ?_
  obtain ⟨v1, hv1, h⟩ := bindS h
  refine Ok.seqw ⟨Cat.tab [(0, (.s (List.map c_api_Lease p_l))), (1, (vi p_now)), (3, (vi p_many)), (6, (.b 6 0)), (27, (vb v1))], [(6, .box [(vi p_q.Client), (vi p_q.Ino), (vi p_q.Kind), (vi p_q.Span.From), (vi p_q.Span.To), (vi (0)), (vi p_q.Epoch)])]⟩ ?_ ?_
  · refine Ok.region Try.tok ?_
    obtain ⟨x1, hx1, hv1⟩ := bindS hv1
    refine ⟨_, rfl, ?_⟩
    refine CallOk.call (w_ref22_One hx1) (LeL.refl _) ?_
    obtain ⟨c1, hg1, hv1⟩ := bindS hv1
    refine Br.itf hg1 (fun hb hg1 => ?_) fun hb hg1 => ?_
    · cases hg1
      obtain ⟨c2, hg2, hv1⟩ := bindS hv1
      replace hg2 := iteT hg2
      cases hg2
      cases hv1
      exact Wk.tab ⟨Le.refl _, Le.refl _, Le.refl _, Le.refl _, Le.refl _, True.intro⟩ ⟨⟨_, rfl, .refl _⟩, True.intro⟩ rfl
    · cases hg1
      obtain ⟨c2, hg3, hv1⟩ := bindS hv1
      refine Br.itf hg3 (fun hb hg3 => ?_) fun hb hg3 => ?_
      · cases hg3
        cases hv1
        exact Wk.tab ⟨Le.refl _, Le.refl _, Le.refl _, Le.refl _, Le.refl _, True.intro⟩ ⟨⟨_, rfl, .refl _⟩, True.intro⟩ rfl
      · cases hg3
        cases hv1
        exact Wk.tab ⟨Le.refl _, Le.refl _, Le.refl _, Le.refl _, Le.refl _, True.intro⟩ ⟨⟨_, rfl, .refl _⟩, True.intro⟩ rfl
  refine Ok.cond (d := 27) (b := v1) rfl h (fun hb h => ?_) fun hb h => ?_
  · refine Ok.seq ?_
    refine Ok.region Try.tok ?_
    refine Ok.wk (Wk.tab (L := [(8, (.s (List.map c_api_Lease p_l))), (9, (vb false)), (10, (.v (.slice none 0 0)))]) (H' := []) ⟨Le.refl _, Le.refl _, Le.refl _, True.intro⟩ True.intro rfl) ?_
    refine Ok.ret ?_
    cases h
    exact (Fz.t (.cons Fz.s (.cons Fz.v (.cons Fz.nil .nil))))
  · refine Ok.skip ?_
    refine Ok.seq ?_
    refine Ok.region Try.tok ?_
    obtain ⟨x2, hx2, h⟩ := bindS h
    refine CallOk.call (w_ref22_Over hx2) (LeL.refl _) ?_
    refine Ok.wk (Wk.tab (L := [(1, (vi p_now)), (3, (vi p_many)), (6, (.b 6 0)), (11, (.s (List.map c_api_Lease x2)))]) (H' := [(6, .box [(vi p_q.Client), (vi p_q.Ino), (vi p_q.Kind), (vi p_q.Span.From), (vi p_q.Span.To), (vi (0)), (vi p_q.Epoch)])]) ⟨Le.refl _, Le.refl _, Le.refl _, Le.refl _, True.intro⟩ ⟨⟨_, rfl, .refl _⟩, True.intro⟩ rfl) ?_
    refine Ok.seq ?_
    refine Ok.region Try.tok ?_
    obtain ⟨x3, hx3, h⟩ := bindS h
    refine ⟨_, rfl, ?_⟩
    refine CallOk.call (w_ref22_Whose hx3) (LeL.refl _) ?_
    refine Ok.wk (Wk.tab (L := [(1, (vi p_now)), (3, (vi p_many)), (6, (.b 6 0)), (11, (.s (List.map c_api_Lease x2))), (12, (.s (List.map Go.Cat.encI x3)))]) (H' := [(6, .box [(vi p_q.Client), (vi p_q.Ino), (vi p_q.Kind), (vi p_q.Span.From), (vi p_q.Span.To), (vi (0)), (vi p_q.Epoch)])]) ⟨Le.refl _, Le.refl _, Le.refl _, Le.refl _, Le.refl _, True.intro⟩ ⟨⟨_, rfl, .refl _⟩, True.intro⟩ rfl) ?_
    refine Ok.seq ?_
    refine Ok.seq ?_
    refine Ok.region Try.tok ?_
    refine ⟨_, List.length_map _, fun _ => ?_⟩
    refine Ok.wk (Wk.tab (L := [(1, (vi p_now)), (3, (vi p_many)), (6, (.b 6 0)), (11, (.s (List.map c_api_Lease x2))), (12, (.s (List.map Go.Cat.encI x3))), (37, (vb ((decide ((x3.length : Int) > 0)))))]) (H' := [(6, .box [(vi p_q.Client), (vi p_q.Ino), (vi p_q.Kind), (vi p_q.Span.From), (vi p_q.Span.To), (vi (0)), (vi p_q.Epoch)])]) ⟨Le.refl _, Le.refl _, Le.refl _, Le.refl _, Le.refl _, Le.refl _, True.intro⟩ ⟨⟨_, rfl, .refl _⟩, True.intro⟩ rfl) ?_
    refine Ok.cond (d := 37) (b := (decide ((x3.length : Int) > 0))) rfl h (fun hb h => ?_) fun hb h => ?_
    · refine Ok.seq ?_
      refine Ok.region Try.tok ?_
      refine Ok.wk (Wk.tab (L := [(8, (.s (List.map c_api_Lease x2))), (9, (vb false)), (10, (.s (List.map Go.Cat.encI x3)))]) (H' := []) ⟨Le.refl _, Le.refl _, Le.refl _, True.intro⟩ True.intro rfl) ?_
      refine Ok.ret ?_
      cases h
      exact (Fz.t (.cons Fz.s (.cons Fz.v (.cons Fz.s .nil))))
    · refine Ok.skip ?_
      refine Ok.seq ?_
      refine Ok.region Try.tok ?_
      refine Or.inr ?_
      refine Ok.wk (Wk.tab (L := [(1, (vi p_now)), (3, (vi p_many)), (6, (.b 6 0)), (11, (.s (List.map c_api_Lease x2))), (13, (.o 40))]) (H' := [(6, .box [(vi p_q.Client), (vi p_q.Ino), (vi p_q.Kind), (vi p_q.Span.From), (vi p_q.Span.To), (vi (0)), (vi p_q.Epoch)]), (40, .own 26 7 (List.map c_api_Lease (([] : List api_Lease))))]) ⟨Le.refl _, Le.refl _, Le.refl _, Le.refl _, Le.refl _, True.intro⟩ ⟨⟨_, rfl, .refl _⟩, ⟨_, rfl, .refl _⟩, True.intro⟩ rfl) ?_
      obtain ⟨v2, hv2, h⟩ := bindS h
      refine Ok.seqw ⟨Cat.tab [(1, (vi p_now)), (3, (vi p_many)), (6, (.b 6 0)), (11, (.s (List.map c_api_Lease x2))), (13, (.o 40))], [(6, .box [(vi p_q.Client), (vi p_q.Ino), (vi p_q.Kind), (vi p_q.Span.From), (vi p_q.Span.To), (vi (0)), (vi p_q.Epoch)]), (40, .own 26 7 (List.map c_api_Lease v2))]⟩ ?_ ?_
      · refine Ok.seq ?_
        refine Ok.region Try.tok ?_
        refine Ok.wk (Wk.tab (L := [(1, (vi p_now)), (3, (vi p_many)), (6, (.b 6 0)), (11, (.s (List.map c_api_Lease x2))), (13, (.o 40)), (14, (vi (0)))]) (H' := [(6, .box [(vi p_q.Client), (vi p_q.Ino), (vi p_q.Kind), (vi p_q.Span.From), (vi p_q.Span.To), (vi (0)), (vi p_q.Epoch)]), (40, .own 26 7 (List.map c_api_Lease (([] : List api_Lease))))]) ⟨Le.refl _, Le.refl _, Le.refl _, Le.refl _, Le.refl _, Le.refl _, True.intro⟩ ⟨⟨_, rfl, .refl _⟩, ⟨_, rfl, .refl _⟩, True.intro⟩ rfl) ?_
        refine Ok.block ?_
        refine Ok.loop (fun (s1 : Int × (List api_Lease)) => ⟨Cat.tab [(1, (vi p_now)), (3, (vi p_many)), (6, (.b 6 0)), (11, (.s (List.map c_api_Lease x2))), (13, (.o 40)), (14, (vi s1.1))], [(6, .box [(vi p_q.Client), (vi p_q.Ino), (vi p_q.Kind), (vi p_q.Span.From), (vi p_q.Span.To), (vi (0)), (vi p_q.Epoch)]), (40, .own 26 7 (List.map c_api_Lease s1.2))]⟩) (ref22_Ask_B1 x2 p_q) (s0 := (0, ([] : List api_Lease))) hv2 (Wk.tab ⟨Le.refl _, Le.refl _, Le.refl _, Le.refl _, Le.refl _, Le.refl _, True.intro⟩ ⟨⟨_, rfl, .refl _⟩, ⟨_, rfl, .refl _⟩, True.intro⟩ rfl) ?_
        intro s1 y1 hB1 hy1
        unfold ref22_Ask_B1 at hB1
        refine Ok.seq ?_
        refine Ok.seq ?_
        refine Ok.region Try.tok ?_
        refine ⟨_, List.length_map _, fun _ => ?_⟩
        refine Ok.wk (Wk.tab (L := [(1, (vi p_now)), (3, (vi p_many)), (6, (.b 6 0)), (11, (.s (List.map c_api_Lease x2))), (13, (.o 40)), (14, (vi s1.1)), (44, (vb ((decide (s1.1 < (x2.length : Int))))))]) (H' := [(6, .box [(vi p_q.Client), (vi p_q.Ino), (vi p_q.Kind), (vi p_q.Span.From), (vi p_q.Span.To), (vi (0)), (vi p_q.Epoch)]), (40, .own 26 7 (List.map c_api_Lease s1.2))]) ⟨Le.refl _, Le.refl _, Le.refl _, Le.refl _, Le.refl _, Le.refl _, Le.refl _, True.intro⟩ ⟨⟨_, rfl, .refl _⟩, ⟨_, rfl, .refl _⟩, True.intro⟩ rfl) ?_
        refine Ok.cond (d := 44) (b := (decide (s1.1 < (x2.length : Int)))) rfl hB1 (fun hb hB1 => ?_) fun hb hB1 => ?_
        · refine Ok.skip ?_
          obtain ⟨v3, hv3, hB1⟩ := bindS hB1
          refine Ok.seqw ⟨Cat.tab [(1, (vi p_now)), (3, (vi p_many)), (6, (.b 6 0)), (11, (.s (List.map c_api_Lease x2))), (13, (.o 40)), (14, (vi s1.1))], [(6, .box [(vi p_q.Client), (vi p_q.Ino), (vi p_q.Kind), (vi p_q.Span.From), (vi p_q.Span.To), (vi (0)), (vi p_q.Epoch)]), (40, .own 26 7 (List.map c_api_Lease v3))]⟩ ?_ ?_
          · refine Ok.block ?_
            refine Ok.seq ?_
            refine Ok.region Try.tok ?_
            obtain ⟨x4, hx4, hv3⟩ := bindS hv3
            refine ⟨_, idx_nat hx4, _, idx_row hx4, ⟨_, rfl, ⟨_, rfl, ?_⟩⟩⟩
            refine Ok.wk (Wk.tab (L := [(1, (vi p_now)), (3, (vi p_many)), (6, (.b 6 0)), (11, (.s (List.map c_api_Lease x2))), (13, (.o 40)), (14, (vi s1.1)), (15, (.b 15 0))]) (H' := [(6, .box [(vi p_q.Client), (vi p_q.Ino), (vi p_q.Kind), (vi p_q.Span.From), (vi p_q.Span.To), (vi (0)), (vi p_q.Epoch)]), (40, .own 26 7 (List.map c_api_Lease s1.2)), (15, .box [(vi x4.Client), (vi x4.Ino), (vi x4.Kind), (vi x4.Span.From), (vi x4.Span.To), (vi x4.Until), (vi x4.Epoch)])]) ⟨Le.refl _, Le.refl _, Le.refl _, Le.refl _, Le.refl _, Le.refl _, Le.refl _, True.intro⟩ ⟨⟨_, rfl, .refl _⟩, ⟨_, rfl, .refl _⟩, ⟨_, rfl, .refl _⟩, True.intro⟩ rfl) ?_
            obtain ⟨v4, hv4, hv3⟩ := bindS hv3
            refine Ok.seqw ⟨Cat.tab [(1, (vi p_now)), (3, (vi p_many)), (6, (.b 6 0)), (11, (.s (List.map c_api_Lease x2))), (13, (.o 40)), (14, (vi s1.1)), (15, (.b 15 0)), (76, (vb v4))], [(6, .box [(vi p_q.Client), (vi p_q.Ino), (vi p_q.Kind), (vi p_q.Span.From), (vi p_q.Span.To), (vi (0)), (vi p_q.Epoch)]), (40, .own 26 7 (List.map c_api_Lease s1.2)), (15, .box [(vi x4.Client), (vi x4.Ino), (vi x4.Kind), (vi x4.Span.From), (vi x4.Span.To), (vi x4.Until), (vi x4.Epoch)])]⟩ ?_ ?_
            · refine Ok.region Try.tok ?_
              refine ⟨_, rfl, ⟨_, rfl, ?_⟩⟩
              obtain ⟨c3, hg4, hv4⟩ := bindS hv4
              refine Br.itf hg4 (fun hb hg4 => ?_) fun hb hg4 => ?_
              · cases hg4
                obtain ⟨c4, hg5, hv4⟩ := bindS hv4
                replace hg5 := iteT hg5
                cases hg5
                obtain ⟨c5, hg6, hv4⟩ := bindS hv4
                replace hg6 := iteT hg6
                cases hg6
                cases hv4
                exact Wk.tab ⟨Le.refl _, Le.refl _, Le.refl _, Le.refl _, Le.refl _, Le.refl _, Le.refl _, Le.refl _, True.intro⟩ ⟨⟨_, rfl, .refl _⟩, ⟨_, rfl, .refl _⟩, ⟨_, rfl, .refl _⟩, True.intro⟩ rfl
              · refine ⟨_, rfl, ⟨_, rfl, ?_⟩⟩
                cases hg4
                obtain ⟨c4, hg7, hv4⟩ := bindS hv4
                refine Br.itf hg7 (fun hb hg7 => ?_) fun hb hg7 => ?_
                · cases hg7
                  obtain ⟨c5, hg8, hv4⟩ := bindS hv4
                  replace hg8 := iteT hg8
                  cases hg8
                  cases hv4
                  exact Wk.tab ⟨Le.refl _, Le.refl _, Le.refl _, Le.refl _, Le.refl _, Le.refl _, Le.refl _, Le.refl _, True.intro⟩ ⟨⟨_, rfl, .refl _⟩, ⟨_, rfl, .refl _⟩, ⟨_, rfl, .refl _⟩, True.intro⟩ rfl
                · refine ⟨_, rfl, ⟨_, rfl, ?_⟩⟩
                  cases hg7
                  obtain ⟨c5, hg9, hv4⟩ := bindS hv4
                  refine Br.itf hg9 (fun hb hg9 => ?_) fun hb hg9 => ?_
                  · cases hg9
                    cases hv4
                    exact Wk.tab ⟨Le.refl _, Le.refl _, Le.refl _, Le.refl _, Le.refl _, Le.refl _, Le.refl _, Le.refl _, True.intro⟩ ⟨⟨_, rfl, .refl _⟩, ⟨_, rfl, .refl _⟩, ⟨_, rfl, .refl _⟩, True.intro⟩ rfl
                  · refine ⟨_, rfl, ⟨_, rfl, ⟨[.one (.int .i64), .one (.int .i64)], by kernel_rfl, ?_⟩⟩⟩
                    cases hg9
                    cases hv4
                    exact Wk.tab ⟨Le.refl _, Le.refl _, Le.refl _, Le.refl _, Le.refl _, Le.refl _, Le.refl _, Le.refl _, True.intro⟩ ⟨⟨_, rfl, .refl _⟩, ⟨_, rfl, .refl _⟩, ⟨_, rfl, .refl _⟩, True.intro⟩ rfl
            refine Ok.cond (d := 76) (b := v4) rfl hv3 (fun hb hv3 => ?_) fun hb hv3 => ?_
            · refine Ok.region Try.tok ?_
              obtain ⟨hc1, hv3⟩ := chk_some hv3
              refine ⟨_, rfl, Or.inl ⟨rowsLen_map (f := c_api_Lease) (n := 7) (fun _ => rfl) ([x4]), app_b2 (f := c_api_Lease) (l := s1.2) (l' := ([x4])) hc1, _, (List.map_append (f := c_api_Lease) (l₁ := s1.2) (l₂ := ([x4]))).symm, ?_⟩⟩
              cases hv3
              exact Wk.tab ⟨Le.refl _, Le.refl _, Le.refl _, Le.refl _, Le.refl _, Le.refl _, True.intro⟩ ⟨⟨_, rfl, .refl _⟩, ⟨_, rfl, .refl _⟩, True.intro⟩ rfl
            · refine Ok.skip ?_
              cases hv3
              exact Wk.tab ⟨Le.refl _, Le.refl _, Le.refl _, Le.refl _, Le.refl _, Le.refl _, True.intro⟩ ⟨⟨_, rfl, .refl _⟩, ⟨_, rfl, .refl _⟩, True.intro⟩ rfl
          refine Ok.region Try.tok ?_
          obtain ⟨hc2, hB1⟩ := chk_some hB1
          refine (Or.inl ⟨hc2, ?_⟩)
          exact ⟨_, (Option.some.inj hB1).symm, Wk.tab ⟨Le.refl _, Le.refl _, Le.refl _, Le.refl _, Le.refl _, Le.refl _, True.intro⟩ ⟨⟨_, rfl, .refl _⟩, ⟨_, rfl, .refl _⟩, True.intro⟩ rfl⟩
        · refine Ok.exit ?_
          have hB1 := out_ret hB1 hy1
          cases hB1
          exact Wk.tab ⟨Le.refl _, Le.refl _, Le.refl _, Le.refl _, Le.refl _, True.intro⟩ ⟨⟨_, rfl, .refl _⟩, ⟨_, rfl, .refl _⟩, True.intro⟩ rfl
      refine Ok.seq ?_
      refine Ok.seq ?_
      refine Ok.region Try.tok ?_
      refine ⟨_, List.length_map _, fun _ => ?_⟩
      refine Ok.wk (Wk.tab (L := [(1, (vi p_now)), (3, (vi p_many)), (6, (.b 6 0)), (11, (.s (List.map c_api_Lease x2))), (13, (.o 40)), (83, (vb ((decide ((v2.length : Int) ≥ 64)))))]) (H' := [(6, .box [(vi p_q.Client), (vi p_q.Ino), (vi p_q.Kind), (vi p_q.Span.From), (vi p_q.Span.To), (vi (0)), (vi p_q.Epoch)]), (40, .own 26 7 (List.map c_api_Lease v2))]) ⟨Le.refl _, Le.refl _, Le.refl _, Le.refl _, Le.refl _, Le.refl _, True.intro⟩ ⟨⟨_, rfl, .refl _⟩, ⟨_, rfl, .refl _⟩, True.intro⟩ rfl) ?_
      refine Ok.cond (d := 83) (b := (decide ((v2.length : Int) ≥ 64))) rfl h (fun hb h => ?_) fun hb h => ?_
      · refine Ok.seq ?_
        refine Ok.region Try.tok ?_
        refine Ok.wk (Wk.tab (L := [(8, (.s (List.map c_api_Lease x2))), (9, (vb false)), (10, (.v (.slice none 0 0)))]) (H' := []) ⟨Le.refl _, Le.refl _, Le.refl _, True.intro⟩ True.intro rfl) ?_
        refine Ok.ret ?_
        cases h
        exact (Fz.t (.cons Fz.s (.cons Fz.v (.cons Fz.nil .nil))))
      · refine Ok.skip ?_
        refine Ok.seq ?_
        refine Ok.region Try.tok ?_
        obtain ⟨x5, hx5, h⟩ := bindS h
        refine CallOk.call (w_ref03_Wait hx5) (LeL.refl _) ?_
        obtain ⟨hc3, h⟩ := chk_some h
        refine (Or.inl ⟨hc3, ⟨_, rfl, ?_⟩⟩)
        refine Ok.wk (Wk.tab (L := [(6, (.b 6 0)), (13, (.o 40))]) (H' := [(6, .box [(vi p_q.Client), (vi p_q.Ino), (vi p_q.Kind), (vi p_q.Span.From), (vi p_q.Span.To), (vi ((p_now + x5))), (vi p_q.Epoch)]), (40, .own 26 7 (List.map c_api_Lease v2))]) ⟨Le.refl _, Le.refl _, True.intro⟩ ⟨⟨_, rfl, .refl _⟩, ⟨_, rfl, .refl _⟩, True.intro⟩ rfl) ?_
        refine Ok.seq ?_
        refine Ok.region Try.tok ?_
        obtain ⟨hc4, h⟩ := chk_some h
        refine ⟨_, rfl, Or.inl ⟨rowsLen_map (f := c_api_Lease) (n := 7) (fun _ => rfl) ([(⟨p_q.Client, p_q.Ino, p_q.Kind, p_q.Span, (p_now + x5), p_q.Epoch⟩ : api_Lease)]), app_b2 (f := c_api_Lease) (l := v2) (l' := ([(⟨p_q.Client, p_q.Ino, p_q.Kind, p_q.Span, (p_now + x5), p_q.Epoch⟩ : api_Lease)])) hc4, _, (List.map_append (f := c_api_Lease) (l₁ := v2) (l₂ := ([(⟨p_q.Client, p_q.Ino, p_q.Kind, p_q.Span, (p_now + x5), p_q.Epoch⟩ : api_Lease)]))).symm, ?_⟩⟩
        refine Ok.wk (Wk.tab (L := [(8, (.o 40)), (9, (vb true)), (10, (.v (.slice none 0 0)))]) (H' := [(40, .own 26 7 (List.map c_api_Lease ((v2 ++ [(⟨p_q.Client, p_q.Ino, p_q.Kind, p_q.Span, (p_now + x5), p_q.Epoch⟩ : api_Lease)]))))]) ⟨Le.refl _, Le.refl _, Le.refl _, True.intro⟩ ⟨⟨_, rfl, .refl _⟩, True.intro⟩ rfl) ?_
        refine Ok.ret ?_
        cases h
        exact (Fz.t (.cons (Fz.o rfl) (.cons Fz.v (.cons Fz.nil .nil))))

theorem w_ref22_Same {p_a : List api_Lease} {p_b : List api_Lease} {r : Bool} (h : ref22_Same p_a p_b = some r) : Pure Try.prog 15 [(.s (List.map c_api_Lease p_a)), (.s (List.map c_api_Lease p_b))] (vb r) := by
  refine pure_of_ok (n := 26) (c := (Try.f15.body.getD .skip)) Try.tok Try.func15 (by kernel_rfl) rfl rfl (Nat.le_of_ble_eq_true rfl) ?_
  unfold ref22_Same at h
  refine Ok.wk (Wk.tab (L := [(0, (.s (List.map c_api_Lease p_a))), (1, (.s (List.map c_api_Lease p_b)))]) (H' := []) ⟨Le.refl _, Le.refl _, True.intro⟩ True.intro rfl) ?_
  refine Ok.seq ?_
  refine Ok.region Try.tok ?_
  refine Ok.wk (Wk.tab (L := [(0, (.s (List.map c_api_Lease p_a))), (1, (.s (List.map c_api_Lease p_b)))]) (H' := []) ⟨Le.refl _, Le.refl _, True.intro⟩ True.intro rfl) ?_
  refine Ok.seq ?_
  refine Ok.seq ?_
  refine Ok.region Try.tok ?_
  refine ⟨_, List.length_map _, fun _ => ⟨_, List.length_map _, fun _ => ?_⟩⟩
  refine Ok.wk (Wk.tab (L := [(0, (.s (List.map c_api_Lease p_a))), (1, (.s (List.map c_api_Lease p_b))), (10, (vb (((p_a.length : Int) != (p_b.length : Int)))))]) (H' := []) ⟨Le.refl _, Le.refl _, Le.refl _, True.intro⟩ True.intro rfl) ?_
  refine Ok.cond (d := 10) (b := ((p_a.length : Int) != (p_b.length : Int))) rfl h (fun hb h => ?_) fun hb h => ?_
  · refine Ok.seq ?_
    refine Ok.region Try.tok ?_
    refine Ok.wk (Wk.tab (L := [(4, (vb false))]) (H' := []) ⟨Le.refl _, True.intro⟩ True.intro rfl) ?_
    refine Ok.ret ?_
    cases h
    exact Fz.v
  · refine Ok.skip ?_
    refine Ok.seqj (fun v1 => ⟨Cat.tab [], []⟩) (fun v1 => ref22_Same_J1 v1 = some r) ?_ ?_
    · refine Ok.seq ?_
      refine Ok.region Try.tok ?_
      refine Ok.wk (Wk.tab (L := [(0, (.s (List.map c_api_Lease p_a))), (1, (.s (List.map c_api_Lease p_b))), (5, (vi (0)))]) (H' := []) ⟨Le.refl _, Le.refl _, Le.refl _, True.intro⟩ True.intro rfl) ?_
      refine Ok.block ?_
      refine Ok.loop (fun (s1 : Int) => ⟨Cat.tab [(0, (.s (List.map c_api_Lease p_a))), (1, (.s (List.map c_api_Lease p_b))), (5, (vi s1))], []⟩) (ref22_Same_B1 p_a p_b) (s0 := 0) h (Wk.tab ⟨Le.refl _, Le.refl _, Le.refl _, True.intro⟩ True.intro rfl) ?_
      intro s1 y1 hB1 hy1
      unfold ref22_Same_B1 at hB1
      refine Ok.seq ?_
      refine Ok.seq ?_
      refine Ok.region Try.tok ?_
      refine ⟨_, List.length_map _, fun _ => ?_⟩
      refine Ok.wk (Wk.tab (L := [(0, (.s (List.map c_api_Lease p_a))), (1, (.s (List.map c_api_Lease p_b))), (5, (vi s1)), (14, (vb ((decide (s1 < (p_a.length : Int))))))]) (H' := []) ⟨Le.refl _, Le.refl _, Le.refl _, Le.refl _, True.intro⟩ True.intro rfl) ?_
      refine Ok.cond (d := 14) (b := (decide (s1 < (p_a.length : Int)))) rfl hB1 (fun hb hB1 => ?_) fun hb hB1 => ?_
      · refine Ok.skip ?_
        refine Ok.seq ?_
        refine Ok.block ?_
        refine Ok.seq ?_
        refine Ok.draw (m := 9) (MD := ⟨[]⟩) (CH := ⟨[]⟩) Try.tok Try.mixed (by kernel_rfl) ?_
        obtain ⟨x1, hx1, hB1⟩ := bindS hB1
        obtain ⟨x2, hx2, hB1⟩ := bindS hB1
        refine ⟨_, rfl, ⟨_, rfl, ⟨_, ⟨_, idx_nat hx1, _, idx_row hx1, rfl⟩, ⟨_, ⟨_, rfl, rfl⟩, ⟨_, rfl, ⟨_, rfl, ⟨_, ⟨_, idx_nat hx2, _, idx_row hx2, rfl⟩, ⟨_, ⟨_, rfl, rfl⟩, ⟨_, ⟨[.one (.int .i64), .one (.int .i64), .one (.int .i64), .st [.int .i64, .int .i64], .one (.int .i64), .one (.int .i64)], by kernel_rfl, rfl⟩, ⟨True.intro, ?_⟩⟩⟩⟩⟩⟩⟩⟩⟩⟩
        refine Ok.wk (Wk.tab (L := [(0, (.s (List.map c_api_Lease p_a))), (1, (.s (List.map c_api_Lease p_b))), (5, (vi s1)), (25, (vb ((!(x1.Client == x2.Client && (x1.Ino == x2.Ino && (x1.Kind == x2.Kind && (x1.Span.From == x2.Span.From && (x1.Span.To == x2.Span.To && (x1.Until == x2.Until && (x1.Epoch == x2.Epoch && true)))))))))))]) (H' := []) ⟨Le.refl _, Le.refl _, Le.refl _, Le.refl _, True.intro⟩ True.intro rfl) ?_
        refine Ok.cond (d := 25) (b := (!(x1.Client == x2.Client && (x1.Ino == x2.Ino && (x1.Kind == x2.Kind && (x1.Span.From == x2.Span.From && (x1.Span.To == x2.Span.To && (x1.Until == x2.Until && (x1.Epoch == x2.Epoch && true))))))))) rfl hB1 (fun hb hB1 => ?_) fun hb hB1 => ?_
        · refine Ok.seq ?_
          refine Ok.region Try.tok ?_
          refine Ok.wk (Wk.tab (L := [(4, (vb false))]) (H' := []) ⟨Le.refl _, True.intro⟩ True.intro rfl) ?_
          refine Ok.ret ?_
          have hB1 := out_ret hB1 hy1
          cases hB1
          exact Fz.v
        · refine Ok.skip ?_
          refine Ok.region Try.tok ?_
          obtain ⟨hc1, hB1⟩ := chk_some hB1
          refine (Or.inl ⟨hc1, ?_⟩)
          exact ⟨_, (Option.some.inj hB1).symm, Wk.tab ⟨Le.refl _, Le.refl _, Le.refl _, True.intro⟩ True.intro rfl⟩
      · refine Ok.exit ?_
        have hB1 := out_ret hB1 hy1
        exact ⟨_, hB1, Wk.tab True.intro True.intro rfl⟩
    intro v1 h
    unfold ref22_Same_J1 at h
    refine Ok.seq ?_
    refine Ok.region Try.tok ?_
    refine Ok.wk (Wk.tab (L := [(4, (vb true))]) (H' := []) ⟨Le.refl _, True.intro⟩ True.intro rfl) ?_
    refine Ok.ret ?_
    cases h
    exact Fz.v

theorem wo_ref22_Back {p_l : List api_Lease} {p_client : Int} {p_ino : Int} {r : (List api_Lease)} (h : ref22_Back p_l p_client p_ino = some r) : POwn Try.prog 20 [(.s (List.map c_api_Lease p_l)), (vi p_client), (vi p_ino)] 26 7 (List.map c_api_Lease r) := by
  refine pown_of_ok (n := 40) (c := (Try.f20.body.getD .skip)) Try.tok Try.func20 (by kernel_rfl) rfl rfl (Nat.le_of_ble_eq_true rfl) ?_
  unfold ref22_Back at h
  refine Ok.wk (Wk.tab (L := [(0, (.s (List.map c_api_Lease p_l))), (1, (vi p_client)), (2, (vi p_ino))]) (H' := []) ⟨Le.refl _, Le.refl _, Le.refl _, True.intro⟩ True.intro rfl) ?_
  refine Ok.seq ?_
  refine Ok.region Try.tok ?_
  refine Ok.wk (Wk.tab (L := [(0, (.s (List.map c_api_Lease p_l))), (1, (vi p_client)), (2, (vi p_ino))]) (H' := []) ⟨Le.refl _, Le.refl _, Le.refl _, True.intro⟩ True.intro rfl) ?_
  refine Ok.seq ?_
  refine Ok.region Try.tok ?_
  refine Or.inr ?_
  refine Ok.wk (Wk.tab (L := [(0, (.s (List.map c_api_Lease p_l))), (1, (vi p_client)), (2, (vi p_ino)), (7, (.o 9))]) (H' := [(9, .own 26 7 (List.map c_api_Lease (([] : List api_Lease))))]) ⟨Le.refl _, Le.refl _, Le.refl _, Le.refl _, True.intro⟩ ⟨⟨_, rfl, .refl _⟩, True.intro⟩ rfl) ?_
  obtain ⟨v1, hv1, h⟩ := bindS h
  refine Ok.seqw ⟨Cat.tab [(7, (.o 9))], [(9, .own 26 7 (List.map c_api_Lease v1))]⟩ ?_ ?_
  · refine Ok.seq ?_
    refine Ok.region Try.tok ?_
    refine Ok.wk (Wk.tab (L := [(0, (.s (List.map c_api_Lease p_l))), (1, (vi p_client)), (2, (vi p_ino)), (7, (.o 9)), (8, (vi (0)))]) (H' := [(9, .own 26 7 (List.map c_api_Lease (([] : List api_Lease))))]) ⟨Le.refl _, Le.refl _, Le.refl _, Le.refl _, Le.refl _, True.intro⟩ ⟨⟨_, rfl, .refl _⟩, True.intro⟩ rfl) ?_
    refine Ok.block ?_
    refine Ok.loop (fun (s1 : Int × (List api_Lease)) => ⟨Cat.tab [(0, (.s (List.map c_api_Lease p_l))), (1, (vi p_client)), (2, (vi p_ino)), (7, (.o 9)), (8, (vi s1.1))], [(9, .own 26 7 (List.map c_api_Lease s1.2))]⟩) (ref22_Back_B1 p_l p_client p_ino) (s0 := (0, ([] : List api_Lease))) hv1 (Wk.tab ⟨Le.refl _, Le.refl _, Le.refl _, Le.refl _, Le.refl _, True.intro⟩ ⟨⟨_, rfl, .refl _⟩, True.intro⟩ rfl) ?_
    intro s1 y1 hB1 hy1
    unfold ref22_Back_B1 at hB1
    refine Ok.seq ?_
    refine Ok.seq ?_
    refine Ok.region Try.tok ?_
    refine ⟨_, List.length_map _, fun _ => ?_⟩
    refine Ok.wk (Wk.tab (L := [(0, (.s (List.map c_api_Lease p_l))), (1, (vi p_client)), (2, (vi p_ino)), (7, (.o 9)), (8, (vi s1.1)), (13, (vb ((decide (s1.1 < (p_l.length : Int))))))]) (H' := [(9, .own 26 7 (List.map c_api_Lease s1.2))]) ⟨Le.refl _, Le.refl _, Le.refl _, Le.refl _, Le.refl _, Le.refl _, True.intro⟩ ⟨⟨_, rfl, .refl _⟩, True.intro⟩ rfl) ?_
    refine Ok.cond (d := 13) (b := (decide (s1.1 < (p_l.length : Int)))) rfl hB1 (fun hb hB1 => ?_) fun hb hB1 => ?_
    · refine Ok.skip ?_
      obtain ⟨v2, hv2, hB1⟩ := bindS hB1
      refine Ok.seqw ⟨Cat.tab [(0, (.s (List.map c_api_Lease p_l))), (1, (vi p_client)), (2, (vi p_ino)), (7, (.o 9)), (8, (vi s1.1))], [(9, .own 26 7 (List.map c_api_Lease v2))]⟩ ?_ ?_
      · refine Ok.block ?_
        obtain ⟨v3, hv3, hv2⟩ := bindS hv2
        refine Ok.seqw ⟨Cat.tab [(0, (.s (List.map c_api_Lease p_l))), (1, (vi p_client)), (2, (vi p_ino)), (7, (.o 9)), (8, (vi s1.1)), (31, (vb v3))], [(9, .own 26 7 (List.map c_api_Lease s1.2))]⟩ ?_ ?_
        · refine Ok.region Try.tok ?_
          obtain ⟨x1, hx1, hv3⟩ := bindS hv3
          refine ⟨_, idx_nat hx1, _, idx_row hx1, ⟨_, rfl, ?_⟩⟩
          obtain ⟨c1, hg1, hv3⟩ := bindS hv3
          refine Br.itf hg1 (fun hb hg1 => ?_) fun hb hg1 => ?_
          · cases hg1
            cases hv3
            exact Wk.tab ⟨Le.refl _, Le.refl _, Le.refl _, Le.refl _, Le.refl _, Le.refl _, True.intro⟩ ⟨⟨_, rfl, .refl _⟩, True.intro⟩ rfl
          · obtain ⟨x2, hx2, hg1⟩ := bindS hg1
            refine ⟨_, idx_nat hx2, _, idx_row hx2, ⟨_, rfl, ?_⟩⟩
            cases hg1
            cases hv3
            exact Wk.tab ⟨Le.refl _, Le.refl _, Le.refl _, Le.refl _, Le.refl _, Le.refl _, True.intro⟩ ⟨⟨_, rfl, .refl _⟩, True.intro⟩ rfl
        refine Ok.cond (d := 31) (b := v3) rfl hv2 (fun hb hv2 => ?_) fun hb hv2 => ?_
        · refine Ok.region Try.tok ?_
          obtain ⟨x3, hx3, hv2⟩ := bindS hv2
          obtain ⟨hc1, hv2⟩ := chk_some hv2
          refine ⟨_, idx_nat hx3, _, idx_row hx3, ⟨_, rfl, Or.inl ⟨rowsLen_map (f := c_api_Lease) (n := 7) (fun _ => rfl) ([x3]), app_b2 (f := c_api_Lease) (l := s1.2) (l' := ([x3])) hc1, _, (List.map_append (f := c_api_Lease) (l₁ := s1.2) (l₂ := ([x3]))).symm, ?_⟩⟩⟩
          cases hv2
          exact Wk.tab ⟨Le.refl _, Le.refl _, Le.refl _, Le.refl _, Le.refl _, True.intro⟩ ⟨⟨_, rfl, .refl _⟩, True.intro⟩ rfl
        · refine Ok.skip ?_
          cases hv2
          exact Wk.tab ⟨Le.refl _, Le.refl _, Le.refl _, Le.refl _, Le.refl _, True.intro⟩ ⟨⟨_, rfl, .refl _⟩, True.intro⟩ rfl
      refine Ok.region Try.tok ?_
      obtain ⟨hc2, hB1⟩ := chk_some hB1
      refine (Or.inl ⟨hc2, ?_⟩)
      exact ⟨_, (Option.some.inj hB1).symm, Wk.tab ⟨Le.refl _, Le.refl _, Le.refl _, Le.refl _, Le.refl _, True.intro⟩ ⟨⟨_, rfl, .refl _⟩, True.intro⟩ rfl⟩
    · refine Ok.exit ?_
      have hB1 := out_ret hB1 hy1
      cases hB1
      exact Wk.tab ⟨Le.refl _, True.intro⟩ ⟨⟨_, rfl, .refl _⟩, True.intro⟩ rfl
  refine Ok.seq ?_
  refine Ok.region Try.tok ?_
  refine Ok.wk (Wk.tab (L := [(6, (.o 9))]) (H' := [(9, .own 26 7 (List.map c_api_Lease v1))]) ⟨Le.refl _, True.intro⟩ ⟨⟨_, rfl, .refl _⟩, True.intro⟩ rfl) ?_
  refine Ok.ret ?_
  cases h
  exact (.inr ⟨_, rfl, rfl⟩)
theorem w_ref22_Back {p_l : List api_Lease} {p_client : Int} {p_ino : Int} {r : (List api_Lease)} (h : ref22_Back p_l p_client p_ino = some r) : Pure Try.prog 20 [(.s (List.map c_api_Lease p_l)), (vi p_client), (vi p_ino)] (.s (List.map c_api_Lease r)) := (wo_ref22_Back h).pure

theorem w_ref22_Has {p_l : List api_Lease} {p_client : Int} {p_ino : Int} {p_kind : Int} {p_s : api_Span} {r : Bool} (h : ref22_Has p_l p_client p_ino p_kind p_s = some r) : Pure Try.prog 22 [(.s (List.map c_api_Lease p_l)), (vi p_client), (vi p_ino), (vi p_kind), (.a [(vi p_s.From), (vi p_s.To)])] (vb r) := by
  refine pure_of_ok (n := 79) (c := (Try.f22.body.getD .skip)) Try.tok Try.func22 (by kernel_rfl) rfl rfl (Nat.le_of_ble_eq_true rfl) ?_
  unfold ref22_Has at h
  refine Ok.wk (Wk.tab (L := [(0, (.s (List.map c_api_Lease p_l))), (1, (vi p_client)), (2, (vi p_ino)), (3, (vi p_kind)), (4, (.a [(vi p_s.From), (vi p_s.To)]))]) (H' := []) ⟨Le.refl _, Le.refl _, Le.refl _, Le.refl _, Le.refl _, True.intro⟩ True.intro rfl) ?_
  refine Ok.seq ?_
  refine Ok.region Try.tok ?_
  refine Ok.wk (Wk.tab (L := [(0, (.s (List.map c_api_Lease p_l))), (1, (vi p_client)), (2, (vi p_ino)), (3, (vi p_kind)), (9, (.b 9 0))]) (H' := [(9, .box [(vi p_s.From), (vi p_s.To)])]) ⟨Le.refl _, Le.refl _, Le.refl _, Le.refl _, Le.refl _, True.intro⟩ ⟨⟨_, rfl, .refl _⟩, True.intro⟩ rfl) ?_
  refine Ok.seq ?_
  obtain ⟨v1, hv1, h⟩ := bindS h
  refine Ok.seqw ⟨Cat.tab [(0, (.s (List.map c_api_Lease p_l))), (1, (vi p_client)), (2, (vi p_ino)), (3, (vi p_kind)), (9, (.b 9 0)), (24, (vb v1))], [(9, .box [(vi p_s.From), (vi p_s.To)])]⟩ ?_ ?_
  · refine Ok.region Try.tok ?_
    obtain ⟨x1, hx1, hv1⟩ := bindS hv1
    refine ⟨_, rfl, ?_⟩
    refine CallOk.call (w_ref22_Spanned hx1) (LeL.refl _) ?_
    obtain ⟨c2, hg1, hv1⟩ := bindS hv1
    refine Br.itf hg1 (fun hb hg1 => ?_) fun hb hg1 => ?_
    · cases hg1
      cases hv1
      exact Wk.tab ⟨Le.refl _, Le.refl _, Le.refl _, Le.refl _, Le.refl _, Le.refl _, True.intro⟩ ⟨⟨_, rfl, .refl _⟩, True.intro⟩ rfl
    · obtain ⟨c1, hg2, hg1⟩ := bindS hg1
      refine Br.ite hg2 (fun hb hg2 => ?_) fun hb hg2 => ?_
      · cases hg2
        cases hg1
        cases hv1
        exact Wk.tab ⟨Le.refl _, Le.refl _, Le.refl _, Le.refl _, Le.refl _, Le.refl _, True.intro⟩ ⟨⟨_, rfl, .refl _⟩, True.intro⟩ rfl
      · cases hg2
        cases hg1
        cases hv1
        exact Wk.tab ⟨Le.refl _, Le.refl _, Le.refl _, Le.refl _, Le.refl _, Le.refl _, True.intro⟩ ⟨⟨_, rfl, .refl _⟩, True.intro⟩ rfl
  refine Ok.cond (d := 24) (b := v1) rfl h (fun hb h => ?_) fun hb h => ?_
  · refine Ok.seq ?_
    refine Ok.region Try.tok ?_
    refine Ok.wk (Wk.tab (L := [(10, (vb false))]) (H' := []) ⟨Le.refl _, True.intro⟩ True.intro rfl) ?_
    refine Ok.ret ?_
    cases h
    exact Fz.v
  · refine Ok.skip ?_
    refine Ok.seq ?_
    refine Ok.region Try.tok ?_
    refine ⟨_, rfl, ?_⟩
    refine Ok.wk (Wk.tab (L := [(0, (.s (List.map c_api_Lease p_l))), (1, (vi p_client)), (2, (vi p_ino)), (3, (vi p_kind)), (9, (.b 9 0)), (11, (vi p_s.From))]) (H' := [(9, .box [(vi p_s.From), (vi p_s.To)])]) ⟨Le.refl _, Le.refl _, Le.refl _, Le.refl _, Le.refl _, Le.refl _, True.intro⟩ ⟨⟨_, rfl, .refl _⟩, True.intro⟩ rfl) ?_
    obtain ⟨v2, hv2, h⟩ := bindS h
    refine Ok.seqw ⟨Cat.tab [(9, (.b 9 0)), (11, (vi v2))], [(9, .box [(vi p_s.From), (vi p_s.To)])]⟩ ?_ ?_
    · refine Ok.seq ?_
      refine Ok.region Try.tok ?_
      refine Ok.wk (Wk.tab (L := [(0, (.s (List.map c_api_Lease p_l))), (1, (vi p_client)), (2, (vi p_ino)), (3, (vi p_kind)), (9, (.b 9 0)), (11, (vi p_s.From)), (12, (vi (0)))]) (H' := [(9, .box [(vi p_s.From), (vi p_s.To)])]) ⟨Le.refl _, Le.refl _, Le.refl _, Le.refl _, Le.refl _, Le.refl _, Le.refl _, True.intro⟩ ⟨⟨_, rfl, .refl _⟩, True.intro⟩ rfl) ?_
      refine Ok.block ?_
      refine Ok.loop (fun (s1 : Int × Int) => ⟨Cat.tab [(0, (.s (List.map c_api_Lease p_l))), (1, (vi p_client)), (2, (vi p_ino)), (3, (vi p_kind)), (9, (.b 9 0)), (11, (vi s1.1)), (12, (vi s1.2))], [(9, .box [(vi p_s.From), (vi p_s.To)])]⟩) (ref22_Has_B1 p_l p_client p_ino p_kind) (s0 := (p_s.From, 0)) hv2 (Wk.tab ⟨Le.refl _, Le.refl _, Le.refl _, Le.refl _, Le.refl _, Le.refl _, Le.refl _, True.intro⟩ ⟨⟨_, rfl, .refl _⟩, True.intro⟩ rfl) ?_
      intro s1 y1 hB1 hy1
      unfold ref22_Has_B1 at hB1
      refine Ok.seq ?_
      refine Ok.seq ?_
      refine Ok.region Try.tok ?_
      refine ⟨_, List.length_map _, fun _ => ?_⟩
      refine Ok.wk (Wk.tab (L := [(0, (.s (List.map c_api_Lease p_l))), (1, (vi p_client)), (2, (vi p_ino)), (3, (vi p_kind)), (9, (.b 9 0)), (11, (vi s1.1)), (12, (vi s1.2)), (30, (vb ((decide (s1.2 < (p_l.length : Int))))))]) (H' := [(9, .box [(vi p_s.From), (vi p_s.To)])]) ⟨Le.refl _, Le.refl _, Le.refl _, Le.refl _, Le.refl _, Le.refl _, Le.refl _, Le.refl _, True.intro⟩ ⟨⟨_, rfl, .refl _⟩, True.intro⟩ rfl) ?_
      refine Ok.cond (d := 30) (b := (decide (s1.2 < (p_l.length : Int)))) rfl hB1 (fun hb hB1 => ?_) fun hb hB1 => ?_
      · refine Ok.skip ?_
        obtain ⟨v3, hv3, hB1⟩ := bindS hB1
        refine Ok.seqw ⟨Cat.tab [(0, (.s (List.map c_api_Lease p_l))), (1, (vi p_client)), (2, (vi p_ino)), (3, (vi p_kind)), (9, (.b 9 0)), (11, (vi v3.1)), (12, (vi v3.2))], [(9, .box [(vi p_s.From), (vi p_s.To)])]⟩ ?_ ?_
        · refine Ok.block ?_
          refine Ok.seq ?_
          refine Ok.region Try.tok ?_
          obtain ⟨x2, hx2, hv3⟩ := bindS hv3
          refine ⟨_, idx_nat hx2, _, idx_row hx2, ⟨_, rfl, ⟨_, rfl, ?_⟩⟩⟩
          refine Ok.wk (Wk.tab (L := [(0, (.s (List.map c_api_Lease p_l))), (1, (vi p_client)), (2, (vi p_ino)), (3, (vi p_kind)), (9, (.b 9 0)), (11, (vi s1.1)), (12, (vi s1.2)), (13, (.b 13 0))]) (H' := [(9, .box [(vi p_s.From), (vi p_s.To)]), (13, .box [(vi x2.Client), (vi x2.Ino), (vi x2.Kind), (vi x2.Span.From), (vi x2.Span.To), (vi x2.Until), (vi x2.Epoch)])]) ⟨Le.refl _, Le.refl _, Le.refl _, Le.refl _, Le.refl _, Le.refl _, Le.refl _, Le.refl _, True.intro⟩ ⟨⟨_, rfl, .refl _⟩, ⟨_, rfl, .refl _⟩, True.intro⟩ rfl) ?_
          obtain ⟨v4, hv4, hv3⟩ := bindS hv3
          refine Ok.seqw ⟨Cat.tab [(0, (.s (List.map c_api_Lease p_l))), (1, (vi p_client)), (2, (vi p_ino)), (3, (vi p_kind)), (9, (.b 9 0)), (11, (vi s1.1)), (12, (vi s1.2)), (13, (.b 13 0)), (71, (vb v4))], [(9, .box [(vi p_s.From), (vi p_s.To)]), (13, .box [(vi x2.Client), (vi x2.Ino), (vi x2.Kind), (vi x2.Span.From), (vi x2.Span.To), (vi x2.Until), (vi x2.Epoch)])]⟩ ?_ ?_
          · refine Ok.region Try.tok ?_
            refine ⟨_, rfl, ?_⟩
            obtain ⟨c3, hg3, hv4⟩ := bindS hv4
            refine Br.ite hg3 (fun hb hg3 => ?_) fun hb hg3 => ?_
            · refine ⟨_, rfl, ?_⟩
              cases hg3
              obtain ⟨c5, hg4, hv4⟩ := bindS hv4
              refine Br.ite hg4 (fun hb hg4 => ?_) fun hb hg4 => ?_
              · refine ⟨_, rfl, ?_⟩
                obtain ⟨c4, hg5, hg4⟩ := bindS hg4
                refine Br.itf hg5 (fun hb hg5 => ?_) fun hb hg5 => ?_
                · cases hg5
                  cases hg4
                  obtain ⟨c6, hg6, hv4⟩ := bindS hv4
                  replace hg6 := iteT hg6
                  refine ⟨_, rfl, ?_⟩
                  cases hg6
                  obtain ⟨c7, hg7, hv4⟩ := bindS hv4
                  refine Br.ite hg7 (fun hb hg7 => ?_) fun hb hg7 => ?_
                  · refine ⟨_, rfl, ?_⟩
                    cases hg7
                    cases hv4
                    exact Wk.tab ⟨Le.refl _, Le.refl _, Le.refl _, Le.refl _, Le.refl _, Le.refl _, Le.refl _, Le.refl _, Le.refl _, True.intro⟩ ⟨⟨_, rfl, .refl _⟩, ⟨_, rfl, .refl _⟩, True.intro⟩ rfl
                  · cases hg7
                    cases hv4
                    exact Wk.tab ⟨Le.refl _, Le.refl _, Le.refl _, Le.refl _, Le.refl _, Le.refl _, Le.refl _, Le.refl _, Le.refl _, True.intro⟩ ⟨⟨_, rfl, .refl _⟩, ⟨_, rfl, .refl _⟩, True.intro⟩ rfl
                · refine ⟨_, rfl, ?_⟩
                  cases hg5
                  cases hg4
                  obtain ⟨c6, hg8, hv4⟩ := bindS hv4
                  refine Br.ite hg8 (fun hb hg8 => ?_) fun hb hg8 => ?_
                  · refine ⟨_, rfl, ?_⟩
                    cases hg8
                    obtain ⟨c7, hg9, hv4⟩ := bindS hv4
                    refine Br.ite hg9 (fun hb hg9 => ?_) fun hb hg9 => ?_
                    · refine ⟨_, rfl, ?_⟩
                      cases hg9
                      cases hv4
                      exact Wk.tab ⟨Le.refl _, Le.refl _, Le.refl _, Le.refl _, Le.refl _, Le.refl _, Le.refl _, Le.refl _, Le.refl _, True.intro⟩ ⟨⟨_, rfl, .refl _⟩, ⟨_, rfl, .refl _⟩, True.intro⟩ rfl
                    · cases hg9
                      cases hv4
                      exact Wk.tab ⟨Le.refl _, Le.refl _, Le.refl _, Le.refl _, Le.refl _, Le.refl _, Le.refl _, Le.refl _, Le.refl _, True.intro⟩ ⟨⟨_, rfl, .refl _⟩, ⟨_, rfl, .refl _⟩, True.intro⟩ rfl
                  · cases hg8
                    obtain ⟨c7, hg10, hv4⟩ := bindS hv4
                    replace hg10 := iteF hg10
                    cases hg10
                    cases hv4
                    exact Wk.tab ⟨Le.refl _, Le.refl _, Le.refl _, Le.refl _, Le.refl _, Le.refl _, Le.refl _, Le.refl _, Le.refl _, True.intro⟩ ⟨⟨_, rfl, .refl _⟩, ⟨_, rfl, .refl _⟩, True.intro⟩ rfl
              · cases hg4
                obtain ⟨c6, hg11, hv4⟩ := bindS hv4
                replace hg11 := iteF hg11
                cases hg11
                obtain ⟨c7, hg12, hv4⟩ := bindS hv4
                replace hg12 := iteF hg12
                cases hg12
                cases hv4
                exact Wk.tab ⟨Le.refl _, Le.refl _, Le.refl _, Le.refl _, Le.refl _, Le.refl _, Le.refl _, Le.refl _, Le.refl _, True.intro⟩ ⟨⟨_, rfl, .refl _⟩, ⟨_, rfl, .refl _⟩, True.intro⟩ rfl
            · cases hg3
              obtain ⟨c5, hg13, hv4⟩ := bindS hv4
              replace hg13 := iteF hg13
              cases hg13
              obtain ⟨c6, hg14, hv4⟩ := bindS hv4
              replace hg14 := iteF hg14
              cases hg14
              obtain ⟨c7, hg15, hv4⟩ := bindS hv4
              replace hg15 := iteF hg15
              cases hg15
              cases hv4
              exact Wk.tab ⟨Le.refl _, Le.refl _, Le.refl _, Le.refl _, Le.refl _, Le.refl _, Le.refl _, Le.refl _, Le.refl _, True.intro⟩ ⟨⟨_, rfl, .refl _⟩, ⟨_, rfl, .refl _⟩, True.intro⟩ rfl
          refine Ok.cond (d := 71) (b := v4) rfl hv3 (fun hb hv3 => ?_) fun hb hv3 => ?_
          · refine Ok.seq ?_
            refine Ok.region Try.tok ?_
            refine ⟨_, rfl, ?_⟩
            refine Ok.wk (Wk.tab (L := [(0, (.s (List.map c_api_Lease p_l))), (1, (vi p_client)), (2, (vi p_ino)), (3, (vi p_kind)), (9, (.b 9 0)), (11, (vi x2.Span.To))]) (H' := [(9, .box [(vi p_s.From), (vi p_s.To)])]) ⟨Le.refl _, Le.refl _, Le.refl _, Le.refl _, Le.refl _, Le.refl _, True.intro⟩ ⟨⟨_, rfl, .refl _⟩, True.intro⟩ rfl) ?_
            refine Ok.region Try.tok ?_
            cases hv3
            exact Wk.tab ⟨Le.refl _, Le.refl _, Le.refl _, Le.refl _, Le.refl _, Le.refl _, Le.refl _, True.intro⟩ ⟨⟨_, rfl, .refl _⟩, True.intro⟩ rfl
          · refine Ok.skip ?_
            cases hv3
            exact Wk.tab ⟨Le.refl _, Le.refl _, Le.refl _, Le.refl _, Le.refl _, Le.refl _, Le.refl _, True.intro⟩ ⟨⟨_, rfl, .refl _⟩, True.intro⟩ rfl
        refine Ok.region Try.tok ?_
        obtain ⟨hc1, hB1⟩ := chk_some hB1
        refine (Or.inl ⟨hc1, ?_⟩)
        exact ⟨_, (Option.some.inj hB1).symm, Wk.tab ⟨Le.refl _, Le.refl _, Le.refl _, Le.refl _, Le.refl _, Le.refl _, Le.refl _, True.intro⟩ ⟨⟨_, rfl, .refl _⟩, True.intro⟩ rfl⟩
      · refine Ok.exit ?_
        have hB1 := out_ret hB1 hy1
        cases hB1
        exact Wk.tab ⟨Le.refl _, Le.refl _, True.intro⟩ ⟨⟨_, rfl, .refl _⟩, True.intro⟩ rfl
    refine Ok.seq ?_
    refine Ok.region Try.tok ?_
    refine ⟨_, rfl, ?_⟩
    refine Ok.wk (Wk.tab (L := [(10, (vb ((decide (v2 ≥ p_s.To)))))]) (H' := []) ⟨Le.refl _, True.intro⟩ True.intro rfl) ?_
    refine Ok.ret ?_
    cases h
    exact Fz.v

theorem w_law22_LeaseTells [Off] {p_l : List api_Lease} {p_now : Int} {p_q : api_Lease} {p_long : Int} {p_s : api_Span} {r : Bool} (h : law22_LeaseTells p_l p_now p_q p_long p_s = some r) : Pure Try.prog 3 [(.s (List.map c_api_Lease p_l)), (vi p_now), (.a [(vi p_q.Client), (vi p_q.Ino), (vi p_q.Kind), (vi p_q.Span.From), (vi p_q.Span.To), (vi p_q.Until), (vi p_q.Epoch)]), (vi p_long), (.a [(vi p_s.From), (vi p_s.To)])] (vb r) := by
  refine pure_of_ok (n := 114) (c := (Try.f3.body.getD .skip)) Try.tok Try.func3 (by kernel_rfl) rfl rfl (Nat.le_of_ble_eq_true rfl) ?_
  unfold law22_LeaseTells at h
  refine Ok.wk (Wk.tab (L := [(0, (.s (List.map c_api_Lease p_l))), (1, (vi p_now)), (2, (.a [(vi p_q.Client), (vi p_q.Ino), (vi p_q.Kind), (vi p_q.Span.From), (vi p_q.Span.To), (vi p_q.Until), (vi p_q.Epoch)])), (3, (vi p_long)), (4, (.a [(vi p_s.From), (vi p_s.To)]))]) (H' := []) ⟨Le.refl _, Le.refl _, Le.refl _, Le.refl _, Le.refl _, True.intro⟩ True.intro rfl) ?_
  refine Ok.seq ?_
  refine Ok.region Try.tok ?_
  refine Ok.wk (Wk.tab (L := [(0, (.s (List.map c_api_Lease p_l))), (1, (vi p_now)), (3, (vi p_long)), (7, (.b 7 0)), (9, (.b 9 0))]) (H' := [(7, .box [(vi p_q.Client), (vi p_q.Ino), (vi p_q.Kind), (vi p_q.Span.From), (vi p_q.Span.To), (vi p_q.Until), (vi p_q.Epoch)]), (9, .box [(vi p_s.From), (vi p_s.To)])]) ⟨Le.refl _, Le.refl _, Le.refl _, Le.refl _, Le.refl _, True.intro⟩ ⟨⟨_, rfl, .refl _⟩, ⟨_, rfl, .refl _⟩, True.intro⟩ rfl) ?_
  refine Ok.seq ?_
  refine Ok.region Try.tok ?_
  obtain ⟨x1, hx1, h⟩ := bindS h
  refine CallOk.call (w_law22_head hx1) (LeL.refl _) ?_
  refine Ok.wk (Wk.tab (L := [(0, (.s (List.map c_api_Lease p_l))), (1, (vi p_now)), (3, (vi p_long)), (7, (.b 7 0)), (9, (.b 9 0)), (11, (vb x1))]) (H' := [(7, .box [(vi p_q.Client), (vi p_q.Ino), (vi p_q.Kind), (vi p_q.Span.From), (vi p_q.Span.To), (vi p_q.Until), (vi p_q.Epoch)]), (9, .box [(vi p_s.From), (vi p_s.To)])]) ⟨Le.refl _, Le.refl _, Le.refl _, Le.refl _, Le.refl _, Le.refl _, True.intro⟩ ⟨⟨_, rfl, .refl _⟩, ⟨_, rfl, .refl _⟩, True.intro⟩ rfl) ?_
  refine Ok.seq ?_
  refine Ok.seq ?_
  refine Ok.region Try.tok ?_
  refine ⟨_, List.length_map _, fun _ => ?_⟩
  refine Ok.wk (Wk.tab (L := [(0, (.s (List.map c_api_Lease p_l))), (1, (vi p_now)), (3, (vi p_long)), (7, (.b 7 0)), (9, (.b 9 0)), (11, (vb x1)), (22, (vb ((decide ((p_l.length : Int) > 80)))))]) (H' := [(7, .box [(vi p_q.Client), (vi p_q.Ino), (vi p_q.Kind), (vi p_q.Span.From), (vi p_q.Span.To), (vi p_q.Until), (vi p_q.Epoch)]), (9, .box [(vi p_s.From), (vi p_s.To)])]) ⟨Le.refl _, Le.refl _, Le.refl _, Le.refl _, Le.refl _, Le.refl _, Le.refl _, True.intro⟩ ⟨⟨_, rfl, .refl _⟩, ⟨_, rfl, .refl _⟩, True.intro⟩ rfl) ?_
  refine Ok.cond (d := 22) (b := (decide ((p_l.length : Int) > 80))) rfl h (fun hb h => ?_) fun hb h => ?_
  · refine Ok.seq ?_
    refine Ok.region Try.tok ?_
    refine Ok.wk (Wk.tab (L := [(10, (vb x1))]) (H' := []) ⟨Le.refl _, True.intro⟩ True.intro rfl) ?_
    refine Ok.ret ?_
    cases h
    exact Fz.v
  · refine Ok.skip ?_
    refine Ok.seq ?_
    refine Ok.seq ?_
    refine Ok.region Try.tok ?_
    obtain ⟨x2, hx2, h⟩ := bindS h
    refine CallOk.call (w_lease_Right hx2) (LeL.refl _) ?_
    obtain ⟨x3, hx3, h⟩ := bindS h
    refine CallOk.call (w_ref22_Right hx3) (LeL.refl _) ?_
    refine Ok.wk (Wk.tab (L := [(0, (.s (List.map c_api_Lease p_l))), (1, (vi p_now)), (3, (vi p_long)), (7, (.b 7 0)), (9, (.b 9 0)), (11, (vb x1)), (28, (vb ((!(x2 == x3)))))]) (H' := [(7, .box [(vi p_q.Client), (vi p_q.Ino), (vi p_q.Kind), (vi p_q.Span.From), (vi p_q.Span.To), (vi p_q.Until), (vi p_q.Epoch)]), (9, .box [(vi p_s.From), (vi p_s.To)])]) ⟨Le.refl _, Le.refl _, Le.refl _, Le.refl _, Le.refl _, Le.refl _, Le.refl _, True.intro⟩ ⟨⟨_, rfl, .refl _⟩, ⟨_, rfl, .refl _⟩, True.intro⟩ rfl) ?_
    refine Ok.cond (d := 28) (b := (!(x2 == x3))) rfl h (fun hb h => ?_) fun hb h => ?_
    · refine Ok.seq ?_
      refine Ok.region Try.tok ?_
      refine Ok.wk (Wk.tab (L := [(10, (vb false))]) (H' := []) ⟨Le.refl _, True.intro⟩ True.intro rfl) ?_
      refine Ok.ret ?_
      cases h
      exact Fz.v
    · refine Ok.skip ?_
      refine Ok.seq ?_
      refine Ok.seq ?_
      refine Ok.region Try.tok ?_
      obtain ⟨x4, hx4, h⟩ := bindS h
      refine CallOk.call (w_ref22_Right hx4) (LeL.refl _) ?_
      refine Ok.wk (Wk.tab (L := [(0, (.s (List.map c_api_Lease p_l))), (1, (vi p_now)), (3, (vi p_long)), (7, (.b 7 0)), (9, (.b 9 0)), (11, (vb x1)), (31, (vb ((!x4))))]) (H' := [(7, .box [(vi p_q.Client), (vi p_q.Ino), (vi p_q.Kind), (vi p_q.Span.From), (vi p_q.Span.To), (vi p_q.Until), (vi p_q.Epoch)]), (9, .box [(vi p_s.From), (vi p_s.To)])]) ⟨Le.refl _, Le.refl _, Le.refl _, Le.refl _, Le.refl _, Le.refl _, Le.refl _, True.intro⟩ ⟨⟨_, rfl, .refl _⟩, ⟨_, rfl, .refl _⟩, True.intro⟩ rfl) ?_
      refine Ok.cond (d := 31) (b := (!x4)) rfl h (fun hb h => ?_) fun hb h => ?_
      · refine Ok.seq ?_
        refine Ok.region Try.tok ?_
        refine Ok.wk (Wk.tab (L := [(10, (vb x1))]) (H' := []) ⟨Le.refl _, True.intro⟩ True.intro rfl) ?_
        refine Ok.ret ?_
        cases h
        exact Fz.v
      · refine Ok.skip ?_
        refine Ok.seq ?_
        refine Ok.region Try.tok ?_
        obtain ⟨x5, hx5, h⟩ := bindS h
        refine CallOk.call (w_law22_time hx5) (LeL.refl _) ?_
        refine Ok.wk (Wk.tab (L := [(0, (.s (List.map c_api_Lease p_l))), (3, (vi p_long)), (7, (.b 7 0)), (9, (.b 9 0)), (11, (vb x1)), (12, (vi x5))]) (H' := [(7, .box [(vi p_q.Client), (vi p_q.Ino), (vi p_q.Kind), (vi p_q.Span.From), (vi p_q.Span.To), (vi p_q.Until), (vi p_q.Epoch)]), (9, .box [(vi p_s.From), (vi p_s.To)])]) ⟨Le.refl _, Le.refl _, Le.refl _, Le.refl _, Le.refl _, Le.refl _, True.intro⟩ ⟨⟨_, rfl, .refl _⟩, ⟨_, rfl, .refl _⟩, True.intro⟩ rfl) ?_
        refine Ok.seq ?_
        refine Ok.region Try.tok ?_
        obtain ⟨x6, hx6, h⟩ := bindS h
        refine ⟨_, rfl, ?_⟩
        refine CallOk.call (w_lease_Ask hx6) (LeL.refl _) ?_
        refine Ok.wk (Wk.tab (L := [(0, (.s (List.map c_api_Lease p_l))), (3, (vi p_long)), (7, (.b 7 0)), (9, (.b 9 0)), (11, (vb x1)), (12, (vi x5)), (13, (.s (List.map c_api_Lease x6.1))), (14, (vb x6.2.1)), (15, (.s (List.map Go.Cat.encI x6.2.2)))]) (H' := [(7, .box [(vi p_q.Client), (vi p_q.Ino), (vi p_q.Kind), (vi p_q.Span.From), (vi p_q.Span.To), (vi p_q.Until), (vi p_q.Epoch)]), (9, .box [(vi p_s.From), (vi p_s.To)])]) ⟨Le.refl _, Le.refl _, Le.refl _, Le.refl _, Le.refl _, Le.refl _, Le.refl _, Le.refl _, Le.refl _, True.intro⟩ ⟨⟨_, rfl, .refl _⟩, ⟨_, rfl, .refl _⟩, True.intro⟩ rfl) ?_
        refine Ok.seq ?_
        refine Ok.region Try.tok ?_
        obtain ⟨x7, hx7, h⟩ := bindS h
        refine ⟨_, rfl, ?_⟩
        refine CallOk.call (w_ref22_Ask hx7) (LeL.refl _) ?_
        refine Ok.wk (Wk.tab (L := [(0, (.s (List.map c_api_Lease p_l))), (7, (.b 7 0)), (9, (.b 9 0)), (11, (vb x1)), (12, (vi x5)), (13, (.s (List.map c_api_Lease x6.1))), (14, (vb x6.2.1)), (15, (.s (List.map Go.Cat.encI x6.2.2))), (16, (.s (List.map c_api_Lease x7.1))), (17, (vb x7.2.1)), (18, (.s (List.map Go.Cat.encI x7.2.2)))]) (H' := [(7, .box [(vi p_q.Client), (vi p_q.Ino), (vi p_q.Kind), (vi p_q.Span.From), (vi p_q.Span.To), (vi p_q.Until), (vi p_q.Epoch)]), (9, .box [(vi p_s.From), (vi p_s.To)])]) ⟨Le.refl _, Le.refl _, Le.refl _, Le.refl _, Le.refl _, Le.refl _, Le.refl _, Le.refl _, Le.refl _, Le.refl _, Le.refl _, True.intro⟩ ⟨⟨_, rfl, .refl _⟩, ⟨_, rfl, .refl _⟩, True.intro⟩ rfl) ?_
        obtain ⟨v1, hv1, h⟩ := bindS h
        refine Ok.seqw ⟨Cat.tab [(10, (vb v1))], []⟩ ?_ ?_
        · refine Ok.draw (m := 62) (MD := ⟨[]⟩) (CH := ⟨[]⟩) Try.tok Try.mixed (by kernel_rfl) ?_
          refine ⟨_, rfl, ⟨_, rfl, ?_⟩⟩
          obtain ⟨c1, hg1, hv1⟩ := bindS hv1
          refine Br.ite hg1 (fun hb hg1 => ?_) fun hb hg1 => ?_
          · obtain ⟨x8, hx8, hg1⟩ := bindS hg1
            refine ⟨_, rfl, ⟨_, rfl, ⟨_, ⟨_, .of_pure (w_ref22_Same hx8) (LeL.refl _), rfl⟩, ?_⟩⟩⟩
            cases hg1
            refine ⟨_, rfl, ?_⟩
            refine ⟨_, rfl, ?_⟩
            obtain ⟨c2, hg2, hv1⟩ := bindS hv1
            refine Br.ite hg2 (fun hb hg2 => ?_) fun hb hg2 => ?_
            · refine ⟨_, rfl, ⟨_, rfl, ⟨_, rfl, ?_⟩⟩⟩
              cases hg2
              refine ⟨_, rfl, ?_⟩
              refine ⟨_, rfl, ?_⟩
              obtain ⟨c3, hg3, hv1⟩ := bindS hv1
              refine Br.ite hg3 (fun hb hg3 => ?_) fun hb hg3 => ?_
              · obtain ⟨x9, hx9, hg3⟩ := bindS hg3
                refine ⟨_, rfl, ⟨_, rfl, ⟨_, ⟨_, .of_pure (w_ref14_Ints hx9) (LeL.refl _), rfl⟩, ?_⟩⟩⟩
                cases hg3
                refine ⟨_, rfl, ?_⟩
                refine ⟨_, rfl, ?_⟩
                obtain ⟨c4, hg4, hv1⟩ := bindS hv1
                refine Br.ite hg4 (fun hb hg4 => ?_) fun hb hg4 => ?_
                · obtain ⟨x10, hx10, hg4⟩ := bindS hg4
                  obtain ⟨x11, hx11, hg4⟩ := bindS hg4
                  obtain ⟨x12, hx12, hg4⟩ := bindS hg4
                  refine ⟨_, rfl, ⟨_, rfl, ⟨_, ⟨_, .of_pure (w_lease_Over hx10) (LeL.refl _), rfl⟩, ⟨_, rfl, ⟨_, rfl, ⟨_, ⟨_, .of_pure (w_ref22_Over hx11) (LeL.refl _), rfl⟩, ⟨_, ⟨_, .of_pure (w_ref22_Same hx12) (LeL.refl _), rfl⟩, ?_⟩⟩⟩⟩⟩⟩⟩
                  cases hg4
                  refine ⟨_, rfl, ?_⟩
                  refine ⟨_, rfl, ?_⟩
                  obtain ⟨c5, hg5, hv1⟩ := bindS hv1
                  refine Br.ite hg5 (fun hb hg5 => ?_) fun hb hg5 => ?_
                  · obtain ⟨x13, hx13, hg5⟩ := bindS hg5
                    obtain ⟨x14, hx14, hg5⟩ := bindS hg5
                    obtain ⟨x15, hx15, hg5⟩ := bindS hg5
                    refine ⟨_, rfl, ⟨_, rfl, ⟨_, ⟨_, rfl, rfl⟩, ⟨_, rfl, ⟨_, ⟨_, rfl, rfl⟩, ⟨_, ⟨_, .of_pure (w_lease_Back hx13) (LeL.refl _), rfl⟩, ⟨_, rfl, ⟨_, rfl, ⟨_, ⟨_, rfl, rfl⟩, ⟨_, rfl, ⟨_, ⟨_, rfl, rfl⟩, ⟨_, ⟨_, .of_pure (w_ref22_Back hx14) (LeL.refl _), rfl⟩, ⟨_, ⟨_, .of_pure (w_ref22_Same hx15) (LeL.refl _), rfl⟩, ?_⟩⟩⟩⟩⟩⟩⟩⟩⟩⟩⟩⟩⟩
                    cases hg5
                    refine ⟨_, rfl, ?_⟩
                    refine ⟨_, rfl, ?_⟩
                    obtain ⟨c6, hg6, hv1⟩ := bindS hv1
                    refine Br.ite hg6 (fun hb hg6 => ?_) fun hb hg6 => ?_
                    · obtain ⟨x16, hx16, hg6⟩ := bindS hg6
                      obtain ⟨x17, hx17, hg6⟩ := bindS hg6
                      refine ⟨_, rfl, ⟨_, rfl, ⟨_, ⟨_, rfl, rfl⟩, ⟨_, rfl, ⟨_, ⟨_, rfl, rfl⟩, ⟨_, rfl, ⟨_, ⟨_, rfl, rfl⟩, ⟨_, ⟨_, rfl, rfl⟩, ⟨_, ⟨_, .of_pure (w_lease_Has hx16) (LeL.refl _), rfl⟩, ⟨_, rfl, ⟨_, rfl, ⟨_, ⟨_, rfl, rfl⟩, ⟨_, rfl, ⟨_, ⟨_, rfl, rfl⟩, ⟨_, rfl, ⟨_, ⟨_, rfl, rfl⟩, ⟨_, ⟨_, rfl, rfl⟩, ⟨_, ⟨_, .of_pure (w_ref22_Has hx17) (LeL.refl _), rfl⟩, ⟨_, rfl, ?_⟩⟩⟩⟩⟩⟩⟩⟩⟩⟩⟩⟩⟩⟩⟩⟩⟩⟩⟩
                      cases hg6
                      refine ⟨_, rfl, ?_⟩
                      refine ⟨_, rfl, ⟨True.intro, ?_⟩⟩
                      cases hv1
                      exact Wk.tab ⟨Le.refl _, True.intro⟩ True.intro rfl
                    · cases hg6
                      refine ⟨_, rfl, ?_⟩
                      refine ⟨_, rfl, ⟨True.intro, ?_⟩⟩
                      cases hv1
                      exact Wk.tab ⟨Le.refl _, True.intro⟩ True.intro rfl
                  · cases hg5
                    refine ⟨_, rfl, ?_⟩
                    refine ⟨_, rfl, ?_⟩
                    obtain ⟨c6, hg7, hv1⟩ := bindS hv1
                    replace hg7 := iteF hg7
                    cases hg7
                    refine ⟨_, rfl, ?_⟩
                    refine ⟨_, rfl, ⟨True.intro, ?_⟩⟩
                    cases hv1
                    exact Wk.tab ⟨Le.refl _, True.intro⟩ True.intro rfl
                · cases hg4
                  refine ⟨_, rfl, ?_⟩
                  refine ⟨_, rfl, ?_⟩
                  obtain ⟨c5, hg8, hv1⟩ := bindS hv1
                  replace hg8 := iteF hg8
                  cases hg8
                  refine ⟨_, rfl, ?_⟩
                  refine ⟨_, rfl, ?_⟩
                  obtain ⟨c6, hg9, hv1⟩ := bindS hv1
                  replace hg9 := iteF hg9
                  cases hg9
                  refine ⟨_, rfl, ?_⟩
                  refine ⟨_, rfl, ⟨True.intro, ?_⟩⟩
                  cases hv1
                  exact Wk.tab ⟨Le.refl _, True.intro⟩ True.intro rfl
              · cases hg3
                refine ⟨_, rfl, ?_⟩
                refine ⟨_, rfl, ?_⟩
                obtain ⟨c4, hg10, hv1⟩ := bindS hv1
                replace hg10 := iteF hg10
                cases hg10
                refine ⟨_, rfl, ?_⟩
                refine ⟨_, rfl, ?_⟩
                obtain ⟨c5, hg11, hv1⟩ := bindS hv1
                replace hg11 := iteF hg11
                cases hg11
                refine ⟨_, rfl, ?_⟩
                refine ⟨_, rfl, ?_⟩
                obtain ⟨c6, hg12, hv1⟩ := bindS hv1
                replace hg12 := iteF hg12
                cases hg12
                refine ⟨_, rfl, ?_⟩
                refine ⟨_, rfl, ⟨True.intro, ?_⟩⟩
                cases hv1
                exact Wk.tab ⟨Le.refl _, True.intro⟩ True.intro rfl
            · cases hg2
              refine ⟨_, rfl, ?_⟩
              refine ⟨_, rfl, ?_⟩
              obtain ⟨c3, hg13, hv1⟩ := bindS hv1
              replace hg13 := iteF hg13
              cases hg13
              refine ⟨_, rfl, ?_⟩
              refine ⟨_, rfl, ?_⟩
              obtain ⟨c4, hg14, hv1⟩ := bindS hv1
              replace hg14 := iteF hg14
              cases hg14
              refine ⟨_, rfl, ?_⟩
              refine ⟨_, rfl, ?_⟩
              obtain ⟨c5, hg15, hv1⟩ := bindS hv1
              replace hg15 := iteF hg15
              cases hg15
              refine ⟨_, rfl, ?_⟩
              refine ⟨_, rfl, ?_⟩
              obtain ⟨c6, hg16, hv1⟩ := bindS hv1
              replace hg16 := iteF hg16
              cases hg16
              refine ⟨_, rfl, ?_⟩
              refine ⟨_, rfl, ⟨True.intro, ?_⟩⟩
              cases hv1
              exact Wk.tab ⟨Le.refl _, True.intro⟩ True.intro rfl
          · cases hg1
            refine ⟨_, rfl, ?_⟩
            refine ⟨_, rfl, ?_⟩
            obtain ⟨c2, hg17, hv1⟩ := bindS hv1
            replace hg17 := iteF hg17
            cases hg17
            refine ⟨_, rfl, ?_⟩
            refine ⟨_, rfl, ?_⟩
            obtain ⟨c3, hg18, hv1⟩ := bindS hv1
            replace hg18 := iteF hg18
            cases hg18
            refine ⟨_, rfl, ?_⟩
            refine ⟨_, rfl, ?_⟩
            obtain ⟨c4, hg19, hv1⟩ := bindS hv1
            replace hg19 := iteF hg19
            cases hg19
            refine ⟨_, rfl, ?_⟩
            refine ⟨_, rfl, ?_⟩
            obtain ⟨c5, hg20, hv1⟩ := bindS hv1
            replace hg20 := iteF hg20
            cases hg20
            refine ⟨_, rfl, ?_⟩
            refine ⟨_, rfl, ?_⟩
            obtain ⟨c6, hg21, hv1⟩ := bindS hv1
            replace hg21 := iteF hg21
            cases hg21
            refine ⟨_, rfl, ?_⟩
            refine ⟨_, rfl, ⟨True.intro, ?_⟩⟩
            cases hv1
            exact Wk.tab ⟨Le.refl _, True.intro⟩ True.intro rfl
        refine Ok.ret ?_
        cases h
        exact Fz.v

end Go.Proofs
