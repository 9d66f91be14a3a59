/- The walks of this seat beside the plain programs, part 1. No condition. -/
import Derived.Test.YthkihdinpdohbaaXSpanTellsEn
import Derived.Test.YthkihdinpdohbaaXSpanTellsWk0
namespace Go.Proofs
set_option linter.all false
open Go Go.Cat
set_option maxRecDepth 100000

theorem wo_ref21_of {p_a : List api_Span} {p_b : List api_Span} {p_how : Int} {r : (List api_Span)} (h : ref21_of p_a p_b p_how = some r) : POwn Try.prog 26 [(.s (List.map c_api_Span p_a)), (.s (List.map c_api_Span p_b)), (vi p_how)] 33 2 (List.map c_api_Span r) := by
  refine pown_of_ok (n := 116) (c := (Try.f26.body.getD .skip)) Try.tok Try.func26 (by kernel_rfl) rfl rfl (Nat.le_of_ble_eq_true rfl) ?_
  unfold ref21_of at h
  refine Ok.wk (Wk.tab (L := [(0, (.s (List.map c_api_Span p_a))), (1, (.s (List.map c_api_Span p_b))), (2, (vi p_how))]) (H' := []) ⟨Le.refl _, Le.refl _, Le.refl _, True.intro⟩ True.intro rfl) ?_
  refine Ok.seq ?_
  refine Ok.region Try.tok ?_
  refine Ok.wk (Wk.tab (L := [(0, (.s (List.map c_api_Span p_a))), (1, (.s (List.map c_api_Span p_b))), (2, (vi p_how))]) (H' := []) ⟨Le.refl _, Le.refl _, Le.refl _, True.intro⟩ True.intro rfl) ?_
  refine Ok.seq ?_
  refine Ok.region Try.tok ?_
  refine Or.inr ?_
  refine Ok.wk (Wk.tab (L := [(0, (.s (List.map c_api_Span p_a))), (1, (.s (List.map c_api_Span p_b))), (2, (vi p_how)), (7, (.o 14))]) (H' := [(14, .own 33 2 (List.map c_api_Span (([] : List api_Span))))]) ⟨Le.refl _, Le.refl _, Le.refl _, Le.refl _, True.intro⟩ ⟨⟨_, rfl, .refl _⟩, True.intro⟩ rfl) ?_
  refine Ok.seq ?_
  refine Ok.region Try.tok ?_
  obtain ⟨hc1, h⟩ := chk_some h
  refine Or.inr ⟨rowsLen_map (f := c_api_Span) (n := 2) (fun _ => rfl) p_a, app_b2 (f := c_api_Span) (l := (([] : List api_Span))) (l' := p_a) hc1, _, (List.map_append (f := c_api_Span) (l₁ := (([] : List api_Span))) (l₂ := p_a)).symm, ?_⟩
  refine Ok.wk (Wk.tab (L := [(0, (.s (List.map c_api_Span p_a))), (1, (.s (List.map c_api_Span p_b))), (2, (vi p_how)), (7, (.o 14)), (8, (.o 15))]) (H' := [(14, .own 33 2 (List.map c_api_Span (([] : List api_Span)))), (15, .own 33 2 (List.map c_api_Span ((([] : List api_Span) ++ p_a))))]) ⟨Le.refl _, Le.refl _, Le.refl _, Le.refl _, Le.refl _, True.intro⟩ ⟨⟨_, rfl, .refl _⟩, ⟨_, rfl, .refl _⟩, True.intro⟩ rfl) ?_
  refine Ok.seq ?_
  refine Ok.region Try.tok ?_
  obtain ⟨hc2, h⟩ := chk_some h
  refine ⟨rowsLen_map (f := c_api_Span) (n := 2) (fun _ => rfl) p_b, app_b2 (f := c_api_Span) (l := ((([] : List api_Span) ++ p_a))) (l' := p_b) hc2, _, (List.map_append (f := c_api_Span) (l₁ := ((([] : List api_Span) ++ p_a))) (l₂ := p_b)).symm, ?_⟩
  refine Ok.wk (Wk.tab (L := [(0, (.s (List.map c_api_Span p_a))), (1, (.s (List.map c_api_Span p_b))), (2, (vi p_how)), (7, (.o 14)), (8, (.o 15))]) (H' := [(14, .own 33 2 (List.map c_api_Span (([] : List api_Span)))), (15, .own 33 2 (List.map c_api_Span (((([] : List api_Span) ++ p_a) ++ p_b))))]) ⟨Le.refl _, Le.refl _, Le.refl _, Le.refl _, Le.refl _, True.intro⟩ ⟨⟨_, rfl, .refl _⟩, ⟨_, rfl, .refl _⟩, True.intro⟩ rfl) ?_
  refine Ok.seq ?_
  refine Ok.region Try.tok ?_
  obtain ⟨x1, hx1, h⟩ := bindS h
  refine CallOk.freeze (id := 15) rfl (CallOk.call (w_ref21_bounds hx1) (LeL.refl _) ?_)
  obtain ⟨x2, hx2, h⟩ := bindS h
  refine CallOk.call (w_ref21_into hx2) (LeL.refl _) ?_
  refine Ok.wk (Wk.tab (L := [(0, (.s (List.map c_api_Span p_a))), (1, (.s (List.map c_api_Span p_b))), (2, (vi p_how)), (7, (.o 14)), (9, (.s (List.map Go.Cat.encI x2)))]) (H' := [(14, .own 33 2 (List.map c_api_Span (([] : List api_Span))))]) ⟨Le.refl _, Le.refl _, Le.refl _, Le.refl _, Le.refl _, True.intro⟩ ⟨⟨_, rfl, .refl _⟩, True.intro⟩ rfl) ?_
  obtain ⟨v1, hv1, h⟩ := bindS h
  refine Ok.seqw ⟨Cat.tab [(7, (.o 14))], [(14, .own 33 2 (List.map c_api_Span v1))]⟩ ?_ ?_
  · refine Ok.seq ?_
    refine Ok.region Try.tok ?_
    refine Ok.wk (Wk.tab (L := [(0, (.s (List.map c_api_Span p_a))), (1, (.s (List.map c_api_Span p_b))), (2, (vi p_how)), (7, (.o 14)), (9, (.s (List.map Go.Cat.encI x2))), (10, (vi (0)))]) (H' := [(14, .own 33 2 (List.map c_api_Span (([] : List api_Span))))]) ⟨Le.refl _, Le.refl _, Le.refl _, Le.refl _, Le.refl _, Le.refl _, True.intro⟩ ⟨⟨_, rfl, .refl _⟩, True.intro⟩ rfl) ?_
    refine Ok.block ?_
    refine Ok.loop (fun s1 => ⟨Cat.tab [(0, (.s (List.map c_api_Span p_a))), (1, (.s (List.map c_api_Span p_b))), (2, (vi p_how)), (7, (.o 14)), (9, (.s (List.map Go.Cat.encI x2))), (10, (vi s1.1))], [(14, .own 33 2 (List.map c_api_Span s1.2))]⟩) (ref21_of_B1 x2 p_a p_b p_how) (s0 := (0, ([] : List api_Span))) hv1 (Wk.tab ⟨Le.refl _, Le.refl _, Le.refl _, Le.refl _, Le.refl _, Le.refl _, True.intro⟩ ⟨⟨_, rfl, .refl _⟩, True.intro⟩ rfl) ?_
    intro s1 y1 hB1 hy1
    unfold ref21_of_B1 at hB1
    refine Ok.seq ?_
    refine Ok.seq ?_
    refine Ok.region Try.tok ?_
    obtain ⟨hc3, hB1⟩ := chk_some hB1
    refine (Or.inl ⟨hc3, ⟨_, List.length_map _, fun _ => ?_⟩⟩)
    refine Ok.wk (Wk.tab (L := [(0, (.s (List.map c_api_Span p_a))), (1, (.s (List.map c_api_Span p_b))), (2, (vi p_how)), (7, (.o 14)), (9, (.s (List.map Go.Cat.encI x2))), (10, (vi s1.1)), (28, (vb ((decide ((s1.1 + 1) < (x2.length : Int))))))]) (H' := [(14, .own 33 2 (List.map c_api_Span s1.2))]) ⟨Le.refl _, Le.refl _, Le.refl _, Le.refl _, Le.refl _, Le.refl _, Le.refl _, True.intro⟩ ⟨⟨_, rfl, .refl _⟩, True.intro⟩ rfl) ?_
    refine Ok.cond (d := 28) (b := (decide ((s1.1 + 1) < (x2.length : Int)))) rfl hB1 (fun hb hB1 => ?_) fun hb hB1 => ?_
    · refine Ok.skip ?_
      obtain ⟨v2, hv2, hB1⟩ := bindS hB1
      refine Ok.seqw ⟨Cat.tab [(0, (.s (List.map c_api_Span p_a))), (1, (.s (List.map c_api_Span p_b))), (2, (vi p_how)), (7, (.o 14)), (9, (.s (List.map Go.Cat.encI x2))), (10, (vi s1.1))], [(14, .own 33 2 (List.map c_api_Span v2))]⟩ ?_ ?_
      · refine Ok.block ?_
        refine Ok.seq ?_
        refine Ok.region Try.tok ?_
        obtain ⟨x3, hx3, hv2⟩ := bindS hv2
        obtain ⟨x4, hx4, hv2⟩ := bindS hv2
        refine ⟨_, idx_nat hx3, _, idx_row hx3, ⟨_, rfl, ?_⟩⟩
        refine CallOk.call (w_ref21_Has hx4) (LeL.refl _) ?_
        refine Ok.wk (Wk.tab (L := [(0, (.s (List.map c_api_Span p_a))), (1, (.s (List.map c_api_Span p_b))), (2, (vi p_how)), (7, (.o 14)), (9, (.s (List.map Go.Cat.encI x2))), (10, (vi s1.1)), (11, (vb x4))]) (H' := [(14, .own 33 2 (List.map c_api_Span s1.2))]) ⟨Le.refl _, Le.refl _, Le.refl _, Le.refl _, Le.refl _, Le.refl _, Le.refl _, True.intro⟩ ⟨⟨_, rfl, .refl _⟩, True.intro⟩ rfl) ?_
        refine Ok.seq ?_
        refine Ok.region Try.tok ?_
        obtain ⟨x5, hx5, hv2⟩ := bindS hv2
        obtain ⟨x6, hx6, hv2⟩ := bindS hv2
        refine ⟨_, idx_nat hx5, _, idx_row hx5, ⟨_, rfl, ?_⟩⟩
        refine CallOk.call (w_ref21_Has hx6) (LeL.refl _) ?_
        refine Ok.wk (Wk.tab (L := [(0, (.s (List.map c_api_Span p_a))), (1, (.s (List.map c_api_Span p_b))), (2, (vi p_how)), (7, (.o 14)), (9, (.s (List.map Go.Cat.encI x2))), (10, (vi s1.1)), (11, (vb x4)), (12, (vb x6))]) (H' := [(14, .own 33 2 (List.map c_api_Span s1.2))]) ⟨Le.refl _, Le.refl _, Le.refl _, Le.refl _, Le.refl _, Le.refl _, Le.refl _, Le.refl _, True.intro⟩ ⟨⟨_, rfl, .refl _⟩, True.intro⟩ rfl) ?_
        obtain ⟨v3, hv3, hv2⟩ := bindS hv2
        refine Ok.seqw ⟨Cat.tab [(0, (.s (List.map c_api_Span p_a))), (1, (.s (List.map c_api_Span p_b))), (2, (vi p_how)), (7, (.o 14)), (9, (.s (List.map Go.Cat.encI x2))), (10, (vi s1.1)), (13, (vb v3))], [(14, .own 33 2 (List.map c_api_Span s1.2))]⟩ ?_ ?_
        · refine Ok.region Try.tok ?_
          obtain ⟨c2, hg1, hv3⟩ := bindS hv3
          refine Br.ite hg1 (fun hb hg1 => ?_) fun hb hg1 => ?_
          · obtain ⟨c1, hg2, hg1⟩ := bindS hg1
            refine Br.itf hg2 (fun hb hg2 => ?_) fun hb hg2 => ?_
            · cases hg2
              cases hg1
              obtain ⟨c5, hg3, hv3⟩ := bindS hv3
              replace hg3 := iteT hg3
              cases hg3
              obtain ⟨c8, hg4, hv3⟩ := bindS hv3
              replace hg4 := iteT hg4
              cases hg4
              cases hv3
              exact Wk.tab ⟨Le.refl _, Le.refl _, Le.refl _, Le.refl _, Le.refl _, Le.refl _, Le.refl _, True.intro⟩ ⟨⟨_, rfl, .refl _⟩, True.intro⟩ rfl
            · cases hg2
              cases hg1
              obtain ⟨c5, hg5, hv3⟩ := bindS hv3
              refine Br.itf hg5 (fun hb hg5 => ?_) fun hb hg5 => ?_
              · cases hg5
                obtain ⟨c8, hg6, hv3⟩ := bindS hv3
                replace hg6 := iteT hg6
                cases hg6
                cases hv3
                exact Wk.tab ⟨Le.refl _, Le.refl _, Le.refl _, Le.refl _, Le.refl _, Le.refl _, Le.refl _, True.intro⟩ ⟨⟨_, rfl, .refl _⟩, True.intro⟩ rfl
              · obtain ⟨c3, hg7, hg5⟩ := bindS hg5
                refine Br.ite hg7 (fun hb hg7 => ?_) fun hb hg7 => ?_
                · cases hg7
                  obtain ⟨c4, hg8, hg5⟩ := bindS hg5
                  refine Br.ite hg8 (fun hb hg8 => ?_) fun hb hg8 => ?_
                  · cases hg8
                    cases hg5
                    obtain ⟨c8, hg9, hv3⟩ := bindS hv3
                    refine Br.itf hg9 (fun hb hg9 => ?_) fun hb hg9 => ?_
                    · cases hg9
                      cases hv3
                      exact Wk.tab ⟨Le.refl _, Le.refl _, Le.refl _, Le.refl _, Le.refl _, Le.refl _, Le.refl _, True.intro⟩ ⟨⟨_, rfl, .refl _⟩, True.intro⟩ rfl
                    · obtain ⟨c6, hg10, hg9⟩ := bindS hg9
                      refine Br.ite hg10 (fun hb hg10 => ?_) fun hb hg10 => ?_
                      · cases hg10
                        obtain ⟨c7, hg11, hg9⟩ := bindS hg9
                        refine Br.ite hg11 (fun hb hg11 => ?_) fun hb hg11 => ?_
                        · cases hg11
                          cases hg9
                          cases hv3
                          exact Wk.tab ⟨Le.refl _, Le.refl _, Le.refl _, Le.refl _, Le.refl _, Le.refl _, Le.refl _, True.intro⟩ ⟨⟨_, rfl, .refl _⟩, True.intro⟩ rfl
                        · cases hg11
                          cases hg9
                          cases hv3
                          exact Wk.tab ⟨Le.refl _, Le.refl _, Le.refl _, Le.refl _, Le.refl _, Le.refl _, Le.refl _, True.intro⟩ ⟨⟨_, rfl, .refl _⟩, True.intro⟩ rfl
                      · cases hg10
                        obtain ⟨c7, hg12, hg9⟩ := bindS hg9
                        replace hg12 := iteF hg12
                        cases hg12
                        cases hg9
                        cases hv3
                        exact Wk.tab ⟨Le.refl _, Le.refl _, Le.refl _, Le.refl _, Le.refl _, Le.refl _, Le.refl _, True.intro⟩ ⟨⟨_, rfl, .refl _⟩, True.intro⟩ rfl
                  · cases hg8
                    cases hg5
                    obtain ⟨c8, hg13, hv3⟩ := bindS hv3
                    replace hg13 := iteF hg13
                    obtain ⟨c6, hg14, hg13⟩ := bindS hg13
                    refine Br.ite hg14 (fun hb hg14 => ?_) fun hb hg14 => ?_
                    · cases hg14
                      obtain ⟨c7, hg15, hg13⟩ := bindS hg13
                      refine Br.ite hg15 (fun hb hg15 => ?_) fun hb hg15 => ?_
                      · cases hg15
                        cases hg13
                        cases hv3
                        exact Wk.tab ⟨Le.refl _, Le.refl _, Le.refl _, Le.refl _, Le.refl _, Le.refl _, Le.refl _, True.intro⟩ ⟨⟨_, rfl, .refl _⟩, True.intro⟩ rfl
                      · cases hg15
                        cases hg13
                        cases hv3
                        exact Wk.tab ⟨Le.refl _, Le.refl _, Le.refl _, Le.refl _, Le.refl _, Le.refl _, Le.refl _, True.intro⟩ ⟨⟨_, rfl, .refl _⟩, True.intro⟩ rfl
                    · cases hg14
                      obtain ⟨c7, hg16, hg13⟩ := bindS hg13
                      replace hg16 := iteF hg16
                      cases hg16
                      cases hg13
                      cases hv3
                      exact Wk.tab ⟨Le.refl _, Le.refl _, Le.refl _, Le.refl _, Le.refl _, Le.refl _, Le.refl _, True.intro⟩ ⟨⟨_, rfl, .refl _⟩, True.intro⟩ rfl
                · cases hg7
                  obtain ⟨c4, hg17, hg5⟩ := bindS hg5
                  replace hg17 := iteF hg17
                  cases hg17
                  cases hg5
                  obtain ⟨c8, hg18, hv3⟩ := bindS hv3
                  replace hg18 := iteF hg18
                  obtain ⟨c6, hg19, hg18⟩ := bindS hg18
                  refine Br.ite hg19 (fun hb hg19 => ?_) fun hb hg19 => ?_
                  · cases hg19
                    obtain ⟨c7, hg20, hg18⟩ := bindS hg18
                    refine Br.ite hg20 (fun hb hg20 => ?_) fun hb hg20 => ?_
                    · cases hg20
                      cases hg18
                      cases hv3
                      exact Wk.tab ⟨Le.refl _, Le.refl _, Le.refl _, Le.refl _, Le.refl _, Le.refl _, Le.refl _, True.intro⟩ ⟨⟨_, rfl, .refl _⟩, True.intro⟩ rfl
                    · cases hg20
                      cases hg18
                      cases hv3
                      exact Wk.tab ⟨Le.refl _, Le.refl _, Le.refl _, Le.refl _, Le.refl _, Le.refl _, Le.refl _, True.intro⟩ ⟨⟨_, rfl, .refl _⟩, True.intro⟩ rfl
                  · cases hg19
                    obtain ⟨c7, hg21, hg18⟩ := bindS hg18
                    replace hg21 := iteF hg21
                    cases hg21
                    cases hg18
                    cases hv3
                    exact Wk.tab ⟨Le.refl _, Le.refl _, Le.refl _, Le.refl _, Le.refl _, Le.refl _, Le.refl _, True.intro⟩ ⟨⟨_, rfl, .refl _⟩, True.intro⟩ rfl
          · cases hg1
            obtain ⟨c5, hg22, hv3⟩ := bindS hv3
            replace hg22 := iteF hg22
            obtain ⟨c3, hg23, hg22⟩ := bindS hg22
            refine Br.ite hg23 (fun hb hg23 => ?_) fun hb hg23 => ?_
            · cases hg23
              obtain ⟨c4, hg24, hg22⟩ := bindS hg22
              refine Br.ite hg24 (fun hb hg24 => ?_) fun hb hg24 => ?_
              · cases hg24
                cases hg22
                obtain ⟨c8, hg25, hv3⟩ := bindS hv3
                refine Br.itf hg25 (fun hb hg25 => ?_) fun hb hg25 => ?_
                · cases hg25
                  cases hv3
                  exact Wk.tab ⟨Le.refl _, Le.refl _, Le.refl _, Le.refl _, Le.refl _, Le.refl _, Le.refl _, True.intro⟩ ⟨⟨_, rfl, .refl _⟩, True.intro⟩ rfl
                · obtain ⟨c6, hg26, hg25⟩ := bindS hg25
                  refine Br.ite hg26 (fun hb hg26 => ?_) fun hb hg26 => ?_
                  · cases hg26
                    obtain ⟨c7, hg27, hg25⟩ := bindS hg25
                    refine Br.ite hg27 (fun hb hg27 => ?_) fun hb hg27 => ?_
                    · cases hg27
                      cases hg25
                      cases hv3
                      exact Wk.tab ⟨Le.refl _, Le.refl _, Le.refl _, Le.refl _, Le.refl _, Le.refl _, Le.refl _, True.intro⟩ ⟨⟨_, rfl, .refl _⟩, True.intro⟩ rfl
                    · cases hg27
                      cases hg25
                      cases hv3
                      exact Wk.tab ⟨Le.refl _, Le.refl _, Le.refl _, Le.refl _, Le.refl _, Le.refl _, Le.refl _, True.intro⟩ ⟨⟨_, rfl, .refl _⟩, True.intro⟩ rfl
                  · cases hg26
                    obtain ⟨c7, hg28, hg25⟩ := bindS hg25
                    replace hg28 := iteF hg28
                    cases hg28
                    cases hg25
                    cases hv3
                    exact Wk.tab ⟨Le.refl _, Le.refl _, Le.refl _, Le.refl _, Le.refl _, Le.refl _, Le.refl _, True.intro⟩ ⟨⟨_, rfl, .refl _⟩, True.intro⟩ rfl
              · cases hg24
                cases hg22
                obtain ⟨c8, hg29, hv3⟩ := bindS hv3
                replace hg29 := iteF hg29
                obtain ⟨c6, hg30, hg29⟩ := bindS hg29
                refine Br.ite hg30 (fun hb hg30 => ?_) fun hb hg30 => ?_
                · cases hg30
                  obtain ⟨c7, hg31, hg29⟩ := bindS hg29
                  refine Br.ite hg31 (fun hb hg31 => ?_) fun hb hg31 => ?_
                  · cases hg31
                    cases hg29
                    cases hv3
                    exact Wk.tab ⟨Le.refl _, Le.refl _, Le.refl _, Le.refl _, Le.refl _, Le.refl _, Le.refl _, True.intro⟩ ⟨⟨_, rfl, .refl _⟩, True.intro⟩ rfl
                  · cases hg31
                    cases hg29
                    cases hv3
                    exact Wk.tab ⟨Le.refl _, Le.refl _, Le.refl _, Le.refl _, Le.refl _, Le.refl _, Le.refl _, True.intro⟩ ⟨⟨_, rfl, .refl _⟩, True.intro⟩ rfl
                · cases hg30
                  obtain ⟨c7, hg32, hg29⟩ := bindS hg29
                  replace hg32 := iteF hg32
                  cases hg32
                  cases hg29
                  cases hv3
                  exact Wk.tab ⟨Le.refl _, Le.refl _, Le.refl _, Le.refl _, Le.refl _, Le.refl _, Le.refl _, True.intro⟩ ⟨⟨_, rfl, .refl _⟩, True.intro⟩ rfl
            · cases hg23
              obtain ⟨c4, hg33, hg22⟩ := bindS hg22
              replace hg33 := iteF hg33
              cases hg33
              cases hg22
              obtain ⟨c8, hg34, hv3⟩ := bindS hv3
              replace hg34 := iteF hg34
              obtain ⟨c6, hg35, hg34⟩ := bindS hg34
              refine Br.ite hg35 (fun hb hg35 => ?_) fun hb hg35 => ?_
              · cases hg35
                obtain ⟨c7, hg36, hg34⟩ := bindS hg34
                refine Br.ite hg36 (fun hb hg36 => ?_) fun hb hg36 => ?_
                · cases hg36
                  cases hg34
                  cases hv3
                  exact Wk.tab ⟨Le.refl _, Le.refl _, Le.refl _, Le.refl _, Le.refl _, Le.refl _, Le.refl _, True.intro⟩ ⟨⟨_, rfl, .refl _⟩, True.intro⟩ rfl
                · cases hg36
                  cases hg34
                  cases hv3
                  exact Wk.tab ⟨Le.refl _, Le.refl _, Le.refl _, Le.refl _, Le.refl _, Le.refl _, Le.refl _, True.intro⟩ ⟨⟨_, rfl, .refl _⟩, True.intro⟩ rfl
              · cases hg35
                obtain ⟨c7, hg37, hg34⟩ := bindS hg34
                replace hg37 := iteF hg37
                cases hg37
                cases hg34
                cases hv3
                exact Wk.tab ⟨Le.refl _, Le.refl _, Le.refl _, Le.refl _, Le.refl _, Le.refl _, Le.refl _, True.intro⟩ ⟨⟨_, rfl, .refl _⟩, True.intro⟩ rfl
        refine Ok.seq ?_
        refine Ok.seq ?_
        refine Ok.region Try.tok ?_
        refine Ok.wk (Wk.tab (L := [(0, (.s (List.map c_api_Span p_a))), (1, (.s (List.map c_api_Span p_b))), (2, (vi p_how)), (7, (.o 14)), (9, (.s (List.map Go.Cat.encI x2))), (10, (vi s1.1)), (73, (vb ((!v3))))]) (H' := [(14, .own 33 2 (List.map c_api_Span s1.2))]) ⟨Le.refl _, Le.refl _, Le.refl _, Le.refl _, Le.refl _, Le.refl _, Le.refl _, True.intro⟩ ⟨⟨_, rfl, .refl _⟩, True.intro⟩ rfl) ?_
        refine Ok.cond (d := 73) (b := (!v3)) rfl hv2 (fun hb hv2 => ?_) fun hb hv2 => ?_
        · refine Ok.exit ?_
          cases hv2
          exact Wk.tab ⟨Le.refl _, Le.refl _, Le.refl _, Le.refl _, Le.refl _, Le.refl _, True.intro⟩ ⟨⟨_, rfl, .refl _⟩, True.intro⟩ rfl
        · refine Ok.skip ?_
          obtain ⟨v4, hv4, hv2⟩ := bindS hv2
          refine Ok.seqw ⟨Cat.tab [(0, (.s (List.map c_api_Span p_a))), (1, (.s (List.map c_api_Span p_b))), (2, (vi p_how)), (7, (.o 14)), (9, (.s (List.map Go.Cat.encI x2))), (10, (vi s1.1)), (90, (vb v4))], [(14, .own 33 2 (List.map c_api_Span s1.2))]⟩ ?_ ?_
          · refine Ok.draw (m := 17) Try.tok Try.mixed (by kernel_rfl) ?_
            refine ⟨_, rfl, ⟨_, ⟨_, List.length_map _, fun _ => rfl⟩, ⟨_, rfl, ⟨_, rfl, ?_⟩⟩⟩⟩
            obtain ⟨c9, hg38, hv4⟩ := bindS hv4
            refine Br.ite hg38 (fun hb hg38 => ?_) fun hb hg38 => ?_
            · obtain ⟨hc4, hg38⟩ := chk_some hg38
              obtain ⟨x7, hx7, hg38⟩ := bindS hg38
              obtain ⟨x8, hx8, hg38⟩ := bindS hg38
              refine ⟨_, rfl, ⟨_, rfl, ⟨_, ⟨_, List.length_map _, fun _ => rfl⟩, ⟨_, (Or.inl ⟨hc4, rfl⟩), ⟨_, ⟨_, idx_nat hx7, idx_ltm hx7, rfl⟩, ⟨_, rfl, ⟨_, ⟨_, idx_row hx7, rfl, _, rfl, rfl⟩, ⟨_, rfl, ⟨_, rfl, ⟨_, ⟨_, idx_nat hx8, _, idx_row hx8, rfl⟩, ⟨_, ⟨_, rfl, rfl⟩, ⟨_, rfl, ?_⟩⟩⟩⟩⟩⟩⟩⟩⟩⟩⟩⟩
              cases hg38
              refine ⟨_, rfl, ?_⟩
              cases hv4
              exact Wk.tab ⟨Le.refl _, Le.refl _, Le.refl _, Le.refl _, Le.refl _, Le.refl _, Le.refl _, True.intro⟩ ⟨⟨_, rfl, .refl _⟩, True.intro⟩ rfl
            · cases hg38
              refine ⟨_, rfl, ?_⟩
              cases hv4
              exact Wk.tab ⟨Le.refl _, Le.refl _, Le.refl _, Le.refl _, Le.refl _, Le.refl _, Le.refl _, True.intro⟩ ⟨⟨_, rfl, .refl _⟩, True.intro⟩ rfl
          refine Ok.cond (d := 90) (b := v4) rfl hv2 (fun hb hv2 => ?_) fun hb hv2 => ?_
          · refine Ok.region Try.tok ?_
            obtain ⟨hc5, hv2⟩ := chk_some hv2
            obtain ⟨hc6, hv2⟩ := chk_some hv2
            obtain ⟨x9, hx9, hv2⟩ := bindS hv2
            obtain ⟨x10, hx10, hv2⟩ := bindS hv2
            refine ⟨_, List.length_map _, fun _ => (Or.inl ⟨hc5, (Or.inl ⟨hc6, ⟨_, idx_nat hx9, _, idx_row hx9, ⟨_, rfl, ⟨_, idx_nat hx10, idx_ltm hx10, ⟨_, idx_row hx10, rfl, _, rfl, _, set_row (f := c_api_Span) (x := (⟨x10.From, x9⟩ : api_Span)), ?_⟩⟩⟩⟩⟩)⟩)⟩
            cases hv2
            exact Wk.tab ⟨Le.refl _, Le.refl _, Le.refl _, Le.refl _, Le.refl _, Le.refl _, True.intro⟩ ⟨⟨_, rfl, .refl _⟩, True.intro⟩ rfl
          · refine Ok.draw (m := 12) Try.tok Try.mixed (by kernel_rfl) ?_
            obtain ⟨x11, hx11, hv2⟩ := bindS hv2
            obtain ⟨hc7, hv2⟩ := chk_some hv2
            obtain ⟨x12, hx12, hv2⟩ := bindS hv2
            obtain ⟨hc8, hv2⟩ := chk_some hv2
            refine ⟨_, rfl, ⟨_, rfl, ⟨_, rfl, ⟨_, ⟨_, idx_nat hx11, _, idx_row hx11, rfl⟩, ⟨_, ⟨_, rfl, rfl⟩, ⟨_, rfl, ⟨_, rfl, ⟨_, (Or.inl ⟨hc7, rfl⟩), ⟨_, ⟨_, idx_nat hx12, _, idx_row hx12, rfl⟩, ⟨_, ⟨_, rfl, rfl⟩, ⟨_, rfl, ⟨_, rfl, ⟨rowsLen_map (f := c_api_Span) (n := 2) (fun _ => rfl) ([(⟨x11, x12⟩ : api_Span)]), app_b2 (f := c_api_Span) (l := s1.2) (l' := ([(⟨x11, x12⟩ : api_Span)])) hc8, _, (List.map_append (f := c_api_Span) (l₁ := s1.2) (l₂ := ([(⟨x11, x12⟩ : api_Span)]))).symm, ?_⟩⟩⟩⟩⟩⟩⟩⟩⟩⟩⟩⟩⟩
            cases hv2
            exact Wk.tab ⟨Le.refl _, Le.refl _, Le.refl _, Le.refl _, Le.refl _, Le.refl _, True.intro⟩ ⟨⟨_, rfl, .refl _⟩, True.intro⟩ rfl
      refine Ok.region Try.tok ?_
      obtain ⟨hc9, hB1⟩ := chk_some hB1
      refine (Or.inl ⟨hc9, ?_⟩)
      exact ⟨_, (Option.some.inj hB1).symm, Wk.tab ⟨Le.refl _, Le.refl _, Le.refl _, Le.refl _, Le.refl _, Le.refl _, True.intro⟩ ⟨⟨_, rfl, .refl _⟩, True.intro⟩ rfl⟩
    · refine Ok.exit ?_
      have hB1 := out_ret hB1 hy1
      cases hB1
      exact Wk.tab ⟨Le.refl _, True.intro⟩ ⟨⟨_, rfl, .refl _⟩, True.intro⟩ rfl
  refine Ok.seq ?_
  refine Ok.region Try.tok ?_
  refine Ok.wk (Wk.tab (L := [(6, (.o 14))]) (H' := [(14, .own 33 2 (List.map c_api_Span v1))]) ⟨Le.refl _, True.intro⟩ ⟨⟨_, rfl, .refl _⟩, True.intro⟩ rfl) ?_
  refine Ok.ret ?_
  cases h
  exact (.inr ⟨_, rfl, rfl⟩)
theorem w_ref21_of {p_a : List api_Span} {p_b : List api_Span} {p_how : Int} {r : (List api_Span)} (h : ref21_of p_a p_b p_how = some r) : Pure Try.prog 26 [(.s (List.map c_api_Span p_a)), (.s (List.map c_api_Span p_b)), (vi p_how)] (.s (List.map c_api_Span r)) := (wo_ref21_of h).pure

theorem w_ref21_Norm {p_l : List api_Span} {r : (List api_Span)} (h : ref21_Norm p_l = some r) : Pure Try.prog 13 [(.s (List.map c_api_Span p_l))] (.s (List.map c_api_Span r)) := by
  refine pure_of_ok (n := 5) (c := (Try.f13.body.getD .skip)) Try.tok Try.func13 (by kernel_rfl) rfl rfl (Nat.le_of_ble_eq_true rfl) ?_
  unfold ref21_Norm at h
  refine Ok.wk (Wk.tab (L := [(0, (.s (List.map c_api_Span p_l)))]) (H' := []) ⟨Le.refl _, True.intro⟩ True.intro rfl) ?_
  refine Ok.seq ?_
  refine Ok.region Try.tok ?_
  refine Ok.wk (Wk.tab (L := [(0, (.s (List.map c_api_Span p_l)))]) (H' := []) ⟨Le.refl _, True.intro⟩ True.intro rfl) ?_
  refine Ok.seq ?_
  refine Ok.region Try.tok ?_
  obtain ⟨x1, hx1, h⟩ := bindS h
  refine CallOk.call (w_ref21_of hx1) (.cons (Le.refl _) (.cons (Le.nil) (.cons (Le.refl _) (.nil)))) ?_
  refine Ok.wk (Wk.tab (L := [(2, (.s (List.map c_api_Span x1)))]) (H' := []) ⟨Le.refl _, True.intro⟩ True.intro rfl) ?_
  refine Ok.ret ?_
  cases h
  exact Fz.s

theorem w_ref21_Add {p_a : List api_Span} {p_b : List api_Span} {r : (List api_Span)} (h : ref21_Add p_a p_b = some r) : Pure Try.prog 15 [(.s (List.map c_api_Span p_a)), (.s (List.map c_api_Span p_b))] (.s (List.map c_api_Span r)) := by
  refine pure_of_ok (n := 8) (c := (Try.f15.body.getD .skip)) Try.tok Try.func15 (by kernel_rfl) rfl rfl (Nat.le_of_ble_eq_true rfl) ?_
  unfold ref21_Add at h
  refine Ok.wk (Wk.tab (L := [(0, (.s (List.map c_api_Span p_a))), (1, (.s (List.map c_api_Span p_b)))]) (H' := []) ⟨Le.refl _, Le.refl _, True.intro⟩ True.intro rfl) ?_
  refine Ok.seq ?_
  refine Ok.region Try.tok ?_
  refine Ok.wk (Wk.tab (L := [(0, (.s (List.map c_api_Span p_a))), (1, (.s (List.map c_api_Span p_b)))]) (H' := []) ⟨Le.refl _, Le.refl _, True.intro⟩ True.intro rfl) ?_
  refine Ok.seq ?_
  refine Ok.region Try.tok ?_
  obtain ⟨x1, hx1, h⟩ := bindS h
  refine CallOk.call (w_ref21_of hx1) (LeL.refl _) ?_
  refine Ok.wk (Wk.tab (L := [(4, (.s (List.map c_api_Span x1)))]) (H' := []) ⟨Le.refl _, True.intro⟩ True.intro rfl) ?_
  refine Ok.ret ?_
  cases h
  exact Fz.s

theorem w_ref21_Cut {p_a : List api_Span} {p_b : List api_Span} {r : (List api_Span)} (h : ref21_Cut p_a p_b = some r) : Pure Try.prog 17 [(.s (List.map c_api_Span p_a)), (.s (List.map c_api_Span p_b))] (.s (List.map c_api_Span r)) := by
  refine pure_of_ok (n := 8) (c := (Try.f17.body.getD .skip)) Try.tok Try.func17 (by kernel_rfl) rfl rfl (Nat.le_of_ble_eq_true rfl) ?_
  unfold ref21_Cut at h
  refine Ok.wk (Wk.tab (L := [(0, (.s (List.map c_api_Span p_a))), (1, (.s (List.map c_api_Span p_b)))]) (H' := []) ⟨Le.refl _, Le.refl _, True.intro⟩ True.intro rfl) ?_
  refine Ok.seq ?_
  refine Ok.region Try.tok ?_
  refine Ok.wk (Wk.tab (L := [(0, (.s (List.map c_api_Span p_a))), (1, (.s (List.map c_api_Span p_b)))]) (H' := []) ⟨Le.refl _, Le.refl _, True.intro⟩ True.intro rfl) ?_
  refine Ok.seq ?_
  refine Ok.region Try.tok ?_
  obtain ⟨x1, hx1, h⟩ := bindS h
  refine CallOk.call (w_ref21_of hx1) (LeL.refl _) ?_
  refine Ok.wk (Wk.tab (L := [(4, (.s (List.map c_api_Span x1)))]) (H' := []) ⟨Le.refl _, True.intro⟩ True.intro rfl) ?_
  refine Ok.ret ?_
  cases h
  exact Fz.s

theorem w_ref21_Meet {p_a : List api_Span} {p_b : List api_Span} {r : (List api_Span)} (h : ref21_Meet p_a p_b = some r) : Pure Try.prog 19 [(.s (List.map c_api_Span p_a)), (.s (List.map c_api_Span p_b))] (.s (List.map c_api_Span r)) := by
  refine pure_of_ok (n := 8) (c := (Try.f19.body.getD .skip)) Try.tok Try.func19 (by kernel_rfl) rfl rfl (Nat.le_of_ble_eq_true rfl) ?_
  unfold ref21_Meet at h
  refine Ok.wk (Wk.tab (L := [(0, (.s (List.map c_api_Span p_a))), (1, (.s (List.map c_api_Span p_b)))]) (H' := []) ⟨Le.refl _, Le.refl _, True.intro⟩ True.intro rfl) ?_
  refine Ok.seq ?_
  refine Ok.region Try.tok ?_
  refine Ok.wk (Wk.tab (L := [(0, (.s (List.map c_api_Span p_a))), (1, (.s (List.map c_api_Span p_b)))]) (H' := []) ⟨Le.refl _, Le.refl _, True.intro⟩ True.intro rfl) ?_
  refine Ok.seq ?_
  refine Ok.region Try.tok ?_
  obtain ⟨x1, hx1, h⟩ := bindS h
  refine CallOk.call (w_ref21_of hx1) (LeL.refl _) ?_
  refine Ok.wk (Wk.tab (L := [(4, (.s (List.map c_api_Span x1)))]) (H' := []) ⟨Le.refl _, True.intro⟩ True.intro rfl) ?_
  refine Ok.ret ?_
  cases h
  exact Fz.s

theorem w_ref21_Size {p_l : List api_Span} {r : Int} (h : ref21_Size p_l = some r) : Pure Try.prog 23 [(.s (List.map c_api_Span p_l))] (vi r) := by
  refine pure_of_ok (n := 28) (c := (Try.f23.body.getD .skip)) Try.tok Try.func23 (by kernel_rfl) rfl rfl (Nat.le_of_ble_eq_true rfl) ?_
  unfold ref21_Size at h
  refine Ok.wk (Wk.tab (L := [(0, (.s (List.map c_api_Span p_l)))]) (H' := []) ⟨Le.refl _, True.intro⟩ True.intro rfl) ?_
  refine Ok.seq ?_
  refine Ok.region Try.tok ?_
  refine Ok.wk (Wk.tab (L := [(0, (.s (List.map c_api_Span p_l)))]) (H' := []) ⟨Le.refl _, True.intro⟩ True.intro rfl) ?_
  refine Ok.seq ?_
  refine Ok.region Try.tok ?_
  refine Ok.wk (Wk.tab (L := [(0, (.s (List.map c_api_Span p_l))), (3, (vi (0)))]) (H' := []) ⟨Le.refl _, Le.refl _, True.intro⟩ True.intro rfl) ?_
  refine Ok.seq ?_
  refine Ok.region Try.tok ?_
  obtain ⟨x1, hx1, h⟩ := bindS h
  refine CallOk.call (w_ref21_Norm hx1) (LeL.refl _) ?_
  refine Ok.wk (Wk.tab (L := [(3, (vi (0))), (4, (.s (List.map c_api_Span x1)))]) (H' := []) ⟨Le.refl _, Le.refl _, True.intro⟩ True.intro rfl) ?_
  obtain ⟨v1, hv1, h⟩ := bindS h
  refine Ok.seqw ⟨Cat.tab [(3, (vi v1))], []⟩ ?_ ?_
  · refine Ok.seq ?_
    refine Ok.region Try.tok ?_
    refine Ok.wk (Wk.tab (L := [(3, (vi (0))), (4, (.s (List.map c_api_Span x1))), (5, (vi (0)))]) (H' := []) ⟨Le.refl _, Le.refl _, Le.refl _, True.intro⟩ True.intro rfl) ?_
    refine Ok.block ?_
    refine Ok.loop (fun s1 => ⟨Cat.tab [(3, (vi s1.1)), (4, (.s (List.map c_api_Span x1))), (5, (vi s1.2))], []⟩) (ref21_Size_B1 x1) (s0 := (0, 0)) hv1 (Wk.tab ⟨Le.refl _, Le.refl _, Le.refl _, True.intro⟩ True.intro rfl) ?_
    intro s1 y1 hB1 hy1
    unfold ref21_Size_B1 at hB1
    refine Ok.seq ?_
    refine Ok.seq ?_
    refine Ok.region Try.tok ?_
    refine ⟨_, List.length_map _, fun _ => ?_⟩
    refine Ok.wk (Wk.tab (L := [(3, (vi s1.1)), (4, (.s (List.map c_api_Span x1))), (5, (vi s1.2)), (11, (vb ((decide (s1.2 < (x1.length : Int))))))]) (H' := []) ⟨Le.refl _, Le.refl _, Le.refl _, Le.refl _, True.intro⟩ True.intro rfl) ?_
    refine Ok.cond (d := 11) (b := (decide (s1.2 < (x1.length : Int)))) rfl hB1 (fun hb hB1 => ?_) fun hb hB1 => ?_
    · refine Ok.skip ?_
      refine Ok.seq ?_
      refine Ok.block ?_
      refine Ok.draw (m := 13) Try.tok Try.mixed (by kernel_rfl) ?_
      obtain ⟨x2, hx2, hB1⟩ := bindS hB1
      obtain ⟨hc1, hB1⟩ := chk_some hB1
      obtain ⟨x3, hx3, hB1⟩ := bindS hB1
      obtain ⟨hc2, hB1⟩ := chk_some hB1
      refine ⟨_, rfl, ⟨_, rfl, ⟨_, rfl, ⟨_, ⟨_, idx_nat hx2, _, idx_row hx2, rfl⟩, ⟨_, rfl, ⟨_, ⟨_, rfl, rfl⟩, ⟨_, (Or.inl ⟨hc1, rfl⟩), ⟨_, rfl, ⟨_, rfl, ⟨_, ⟨_, idx_nat hx3, _, idx_row hx3, rfl⟩, ⟨_, rfl, ⟨_, ⟨_, rfl, rfl⟩, ⟨_, (Or.inl ⟨hc2, rfl⟩), ?_⟩⟩⟩⟩⟩⟩⟩⟩⟩⟩⟩⟩⟩
      refine Ok.wk (Wk.tab (L := [(3, (vi (((s1.1 + x2.To) - x3.From)))), (4, (.s (List.map c_api_Span x1))), (5, (vi s1.2))]) (H' := []) ⟨Le.refl _, Le.refl _, Le.refl _, True.intro⟩ True.intro rfl) ?_
      refine Ok.region Try.tok ?_
      obtain ⟨hc3, hB1⟩ := chk_some hB1
      refine (Or.inl ⟨hc3, ?_⟩)
      exact ⟨_, (Option.some.inj hB1).symm, Wk.tab ⟨Le.refl _, Le.refl _, Le.refl _, True.intro⟩ True.intro rfl⟩
    · refine Ok.exit ?_
      have hB1 := out_ret hB1 hy1
      cases hB1
      exact Wk.tab ⟨Le.refl _, True.intro⟩ True.intro rfl
  refine Ok.seq ?_
  refine Ok.region Try.tok ?_
  refine Ok.wk (Wk.tab (L := [(2, (vi v1))]) (H' := []) ⟨Le.refl _, True.intro⟩ True.intro rfl) ?_
  refine Ok.ret ?_
  cases h
  exact Fz.v

theorem w_law21_SpanTells {p_x : List api_Span} {p_y : List api_Span} {p_at : Int} {r : Bool} (h : law21_SpanTells p_x p_y p_at = some r) : Pure Try.prog 3 [(.s (List.map c_api_Span p_x)), (.s (List.map c_api_Span p_y)), (vi p_at)] (vb r) := by
  refine pure_of_ok (n := 66) (c := (Try.f3.body.getD .skip)) Try.tok Try.func3 (by kernel_rfl) rfl rfl (Nat.le_of_ble_eq_true rfl) ?_
  unfold law21_SpanTells at h
  refine Ok.wk (Wk.tab (L := [(0, (.s (List.map c_api_Span p_x))), (1, (.s (List.map c_api_Span p_y))), (2, (vi p_at))]) (H' := []) ⟨Le.refl _, Le.refl _, Le.refl _, True.intro⟩ True.intro rfl) ?_
  refine Ok.seq ?_
  refine Ok.region Try.tok ?_
  refine Ok.wk (Wk.tab (L := [(0, (.s (List.map c_api_Span p_x))), (1, (.s (List.map c_api_Span p_y))), (2, (vi p_at))]) (H' := []) ⟨Le.refl _, Le.refl _, Le.refl _, True.intro⟩ True.intro rfl) ?_
  refine Ok.seq ?_
  refine Ok.region Try.tok ?_
  obtain ⟨x1, hx1, h⟩ := bindS h
  refine CallOk.call (w_law21_head hx1) (LeL.refl _) ?_
  refine Ok.wk (Wk.tab (L := [(0, (.s (List.map c_api_Span p_x))), (1, (.s (List.map c_api_Span p_y))), (2, (vi p_at)), (7, (vb x1))]) (H' := []) ⟨Le.refl _, Le.refl _, Le.refl _, Le.refl _, True.intro⟩ True.intro rfl) ?_
  refine Ok.seq ?_
  refine Ok.region Try.tok ?_
  obtain ⟨x2, hx2, h⟩ := bindS h
  refine CallOk.call (w_ref21_Few hx2) (LeL.refl _) ?_
  refine Ok.wk (Wk.tab (L := [(1, (.s (List.map c_api_Span p_y))), (2, (vi p_at)), (7, (vb x1)), (8, (.s (List.map c_api_Span x2)))]) (H' := []) ⟨Le.refl _, Le.refl _, Le.refl _, Le.refl _, True.intro⟩ True.intro rfl) ?_
  refine Ok.seq ?_
  refine Ok.region Try.tok ?_
  obtain ⟨x3, hx3, h⟩ := bindS h
  refine CallOk.call (w_ref21_Few hx3) (LeL.refl _) ?_
  refine Ok.wk (Wk.tab (L := [(2, (vi p_at)), (7, (vb x1)), (8, (.s (List.map c_api_Span x2))), (9, (.s (List.map c_api_Span x3)))]) (H' := []) ⟨Le.refl _, Le.refl _, Le.refl _, Le.refl _, True.intro⟩ True.intro rfl) ?_
  obtain ⟨v1, hv1, h⟩ := bindS h
  refine Ok.seqw ⟨Cat.tab [(6, (vb v1))], []⟩ ?_ ?_
  · refine Ok.region Try.tok ?_
    obtain ⟨c1, hg1, hv1⟩ := bindS hv1
    refine Br.ite hg1 (fun hb hg1 => ?_) fun hb hg1 => ?_
    · obtain ⟨x4, hx4, hg1⟩ := bindS hg1
      refine CallOk.norm (L := [(2, (vi p_at)), (8, (.s (List.map c_api_Span x2))), (9, (.s (List.map c_api_Span x3))), (16, .v (.bool true)), (17, (.s (List.map c_api_Span x2)))]) (H' := []) (LeL.refl _) ⟨Le.refl _, Le.refl _, Le.refl _, Le.refl _, Le.refl _, True.intro⟩ True.intro rfl (CallOk.call (w_span_Norm hx4) (LeL.refl _) ?_)
      obtain ⟨x5, hx5, hg1⟩ := bindS hg1
      refine CallOk.norm (L := [(2, (vi p_at)), (8, (.s (List.map c_api_Span x2))), (9, (.s (List.map c_api_Span x3))), (16, .v (.bool true)), (18, (.s (List.map c_api_Span x4))), (19, (.s (List.map c_api_Span x2)))]) (H' := []) (LeL.refl _) ⟨Le.refl _, Le.refl _, Le.refl _, Le.refl _, Le.refl _, Le.refl _, True.intro⟩ True.intro rfl (CallOk.call (w_ref21_Norm hx5) (LeL.refl _) ?_)
      obtain ⟨x6, hx6, hg1⟩ := bindS hg1
      refine CallOk.norm (L := [(2, (vi p_at)), (8, (.s (List.map c_api_Span x2))), (9, (.s (List.map c_api_Span x3))), (16, .v (.bool true)), (18, (.s (List.map c_api_Span x4))), (20, (.s (List.map c_api_Span x5)))]) (H' := []) (LeL.refl _) ⟨Le.refl _, Le.refl _, Le.refl _, Le.refl _, Le.refl _, Le.refl _, True.intro⟩ True.intro rfl (CallOk.call (w_ref21_Same hx6) (LeL.refl _) ?_)
      cases hg1
      obtain ⟨c2, hg2, hv1⟩ := bindS hv1
      refine Br.ite hg2 (fun hb hg2 => ?_) fun hb hg2 => ?_
      · obtain ⟨x7, hx7, hg2⟩ := bindS hg2
        refine CallOk.norm (L := [(2, (vi p_at)), (8, (.s (List.map c_api_Span x2))), (9, (.s (List.map c_api_Span x3))), (23, .v (.bool true)), (24, (.s (List.map c_api_Span x2))), (25, (.s (List.map c_api_Span x3)))]) (H' := []) (LeL.refl _) ⟨Le.refl _, Le.refl _, Le.refl _, Le.refl _, Le.refl _, Le.refl _, True.intro⟩ True.intro rfl (CallOk.call (w_span_Add hx7) (LeL.refl _) ?_)
        obtain ⟨x8, hx8, hg2⟩ := bindS hg2
        refine CallOk.norm (L := [(2, (vi p_at)), (8, (.s (List.map c_api_Span x2))), (9, (.s (List.map c_api_Span x3))), (23, .v (.bool true)), (26, (.s (List.map c_api_Span x7))), (27, (.s (List.map c_api_Span x2))), (28, (.s (List.map c_api_Span x3)))]) (H' := []) (LeL.refl _) ⟨Le.refl _, Le.refl _, Le.refl _, Le.refl _, Le.refl _, Le.refl _, Le.refl _, True.intro⟩ True.intro rfl (CallOk.call (w_ref21_Add hx8) (LeL.refl _) ?_)
        obtain ⟨x9, hx9, hg2⟩ := bindS hg2
        refine CallOk.norm (L := [(2, (vi p_at)), (8, (.s (List.map c_api_Span x2))), (9, (.s (List.map c_api_Span x3))), (23, .v (.bool true)), (26, (.s (List.map c_api_Span x7))), (29, (.s (List.map c_api_Span x8)))]) (H' := []) (LeL.refl _) ⟨Le.refl _, Le.refl _, Le.refl _, Le.refl _, Le.refl _, Le.refl _, True.intro⟩ True.intro rfl (CallOk.call (w_ref21_Same hx9) (LeL.refl _) ?_)
        cases hg2
        obtain ⟨c3, hg3, hv1⟩ := bindS hv1
        refine Br.ite hg3 (fun hb hg3 => ?_) fun hb hg3 => ?_
        · obtain ⟨x10, hx10, hg3⟩ := bindS hg3
          refine CallOk.norm (L := [(2, (vi p_at)), (8, (.s (List.map c_api_Span x2))), (9, (.s (List.map c_api_Span x3))), (32, .v (.bool true)), (33, (.s (List.map c_api_Span x2))), (34, (.s (List.map c_api_Span x3)))]) (H' := []) (LeL.refl _) ⟨Le.refl _, Le.refl _, Le.refl _, Le.refl _, Le.refl _, Le.refl _, True.intro⟩ True.intro rfl (CallOk.call (w_span_Cut hx10) (LeL.refl _) ?_)
          obtain ⟨x11, hx11, hg3⟩ := bindS hg3
          refine CallOk.norm (L := [(2, (vi p_at)), (8, (.s (List.map c_api_Span x2))), (9, (.s (List.map c_api_Span x3))), (32, .v (.bool true)), (35, (.s (List.map c_api_Span x10))), (36, (.s (List.map c_api_Span x2))), (37, (.s (List.map c_api_Span x3)))]) (H' := []) (LeL.refl _) ⟨Le.refl _, Le.refl _, Le.refl _, Le.refl _, Le.refl _, Le.refl _, Le.refl _, True.intro⟩ True.intro rfl (CallOk.call (w_ref21_Cut hx11) (LeL.refl _) ?_)
          obtain ⟨x12, hx12, hg3⟩ := bindS hg3
          refine CallOk.norm (L := [(2, (vi p_at)), (8, (.s (List.map c_api_Span x2))), (9, (.s (List.map c_api_Span x3))), (32, .v (.bool true)), (35, (.s (List.map c_api_Span x10))), (38, (.s (List.map c_api_Span x11)))]) (H' := []) (LeL.refl _) ⟨Le.refl _, Le.refl _, Le.refl _, Le.refl _, Le.refl _, Le.refl _, True.intro⟩ True.intro rfl (CallOk.call (w_ref21_Same hx12) (LeL.refl _) ?_)
          cases hg3
          obtain ⟨c4, hg4, hv1⟩ := bindS hv1
          refine Br.ite hg4 (fun hb hg4 => ?_) fun hb hg4 => ?_
          · obtain ⟨x13, hx13, hg4⟩ := bindS hg4
            refine CallOk.norm (L := [(2, (vi p_at)), (8, (.s (List.map c_api_Span x2))), (9, (.s (List.map c_api_Span x3))), (41, .v (.bool true)), (42, (.s (List.map c_api_Span x2))), (43, (.s (List.map c_api_Span x3)))]) (H' := []) (LeL.refl _) ⟨Le.refl _, Le.refl _, Le.refl _, Le.refl _, Le.refl _, Le.refl _, True.intro⟩ True.intro rfl (CallOk.call (w_span_Meet hx13) (LeL.refl _) ?_)
            obtain ⟨x14, hx14, hg4⟩ := bindS hg4
            refine CallOk.norm (L := [(2, (vi p_at)), (8, (.s (List.map c_api_Span x2))), (41, .v (.bool true)), (44, (.s (List.map c_api_Span x13))), (45, (.s (List.map c_api_Span x2))), (46, (.s (List.map c_api_Span x3)))]) (H' := []) (LeL.refl _) ⟨Le.refl _, Le.refl _, Le.refl _, Le.refl _, Le.refl _, Le.refl _, True.intro⟩ True.intro rfl (CallOk.call (w_ref21_Meet hx14) (LeL.refl _) ?_)
            obtain ⟨x15, hx15, hg4⟩ := bindS hg4
            refine CallOk.norm (L := [(2, (vi p_at)), (8, (.s (List.map c_api_Span x2))), (41, .v (.bool true)), (44, (.s (List.map c_api_Span x13))), (47, (.s (List.map c_api_Span x14)))]) (H' := []) (LeL.refl _) ⟨Le.refl _, Le.refl _, Le.refl _, Le.refl _, Le.refl _, True.intro⟩ True.intro rfl (CallOk.call (w_ref21_Same hx15) (LeL.refl _) ?_)
            cases hg4
            obtain ⟨c5, hg5, hv1⟩ := bindS hv1
            refine Br.ite hg5 (fun hb hg5 => ?_) fun hb hg5 => ?_
            · obtain ⟨x16, hx16, hg5⟩ := bindS hg5
              refine CallOk.norm (L := [(2, (vi p_at)), (8, (.s (List.map c_api_Span x2))), (50, .v (.bool true)), (51, (.s (List.map c_api_Span x2))), (52, (vi p_at))]) (H' := []) (LeL.refl _) ⟨Le.refl _, Le.refl _, Le.refl _, Le.refl _, Le.refl _, True.intro⟩ True.intro rfl (CallOk.call (w_span_Has hx16) (LeL.refl _) ?_)
              obtain ⟨x17, hx17, hg5⟩ := bindS hg5
              refine CallOk.norm (L := [(8, (.s (List.map c_api_Span x2))), (50, .v (.bool true)), (53, (vb x16)), (54, (.s (List.map c_api_Span x2))), (55, (vi p_at))]) (H' := []) (LeL.refl _) ⟨Le.refl _, Le.refl _, Le.refl _, Le.refl _, Le.refl _, True.intro⟩ True.intro rfl (CallOk.call (w_ref21_Has hx17) (LeL.refl _) ?_)
              cases hg5
              obtain ⟨c6, hg6, hv1⟩ := bindS hv1
              refine Br.ite hg6 (fun hb hg6 => ?_) fun hb hg6 => ?_
              · obtain ⟨x18, hx18, hg6⟩ := bindS hg6
                refine CallOk.norm (L := [(8, (.s (List.map c_api_Span x2))), (59, .v (.bool true)), (60, (.s (List.map c_api_Span x2)))]) (H' := []) (LeL.refl _) ⟨Le.refl _, Le.refl _, Le.refl _, True.intro⟩ True.intro rfl (CallOk.call (w_span_Size hx18) (LeL.refl _) ?_)
                obtain ⟨x19, hx19, hg6⟩ := bindS hg6
                refine CallOk.norm (L := [(59, .v (.bool true)), (61, (vi x18)), (62, (.s (List.map c_api_Span x2)))]) (H' := []) (LeL.refl _) ⟨Le.refl _, Le.refl _, Le.refl _, True.intro⟩ True.intro rfl (CallOk.call (w_ref21_Size hx19) (LeL.refl _) ?_)
                cases hg6
                cases hv1
                exact Wk.tab ⟨Le.refl _, True.intro⟩ True.intro rfl
              · cases hg6
                cases hv1
                exact Wk.tab ⟨Le.refl _, True.intro⟩ True.intro rfl
            · cases hg5
              obtain ⟨c6, hg7, hv1⟩ := bindS hv1
              replace hg7 := iteF hg7
              cases hg7
              cases hv1
              exact Wk.tab ⟨Le.refl _, True.intro⟩ True.intro rfl
          · cases hg4
            obtain ⟨c5, hg8, hv1⟩ := bindS hv1
            replace hg8 := iteF hg8
            cases hg8
            obtain ⟨c6, hg9, hv1⟩ := bindS hv1
            replace hg9 := iteF hg9
            cases hg9
            cases hv1
            exact Wk.tab ⟨Le.refl _, True.intro⟩ True.intro rfl
        · cases hg3
          obtain ⟨c4, hg10, hv1⟩ := bindS hv1
          replace hg10 := iteF hg10
          cases hg10
          obtain ⟨c5, hg11, hv1⟩ := bindS hv1
          replace hg11 := iteF hg11
          cases hg11
          obtain ⟨c6, hg12, hv1⟩ := bindS hv1
          replace hg12 := iteF hg12
          cases hg12
          cases hv1
          exact Wk.tab ⟨Le.refl _, True.intro⟩ True.intro rfl
      · cases hg2
        obtain ⟨c3, hg13, hv1⟩ := bindS hv1
        replace hg13 := iteF hg13
        cases hg13
        obtain ⟨c4, hg14, hv1⟩ := bindS hv1
        replace hg14 := iteF hg14
        cases hg14
        obtain ⟨c5, hg15, hv1⟩ := bindS hv1
        replace hg15 := iteF hg15
        cases hg15
        obtain ⟨c6, hg16, hv1⟩ := bindS hv1
        replace hg16 := iteF hg16
        cases hg16
        cases hv1
        exact Wk.tab ⟨Le.refl _, True.intro⟩ True.intro rfl
    · cases hg1
      obtain ⟨c2, hg17, hv1⟩ := bindS hv1
      replace hg17 := iteF hg17
      cases hg17
      obtain ⟨c3, hg18, hv1⟩ := bindS hv1
      replace hg18 := iteF hg18
      cases hg18
      obtain ⟨c4, hg19, hv1⟩ := bindS hv1
      replace hg19 := iteF hg19
      cases hg19
      obtain ⟨c5, hg20, hv1⟩ := bindS hv1
      replace hg20 := iteF hg20
      cases hg20
      obtain ⟨c6, hg21, hv1⟩ := bindS hv1
      replace hg21 := iteF hg21
      cases hg21
      cases hv1
      exact Wk.tab ⟨Le.refl _, True.intro⟩ True.intro rfl
  refine Ok.ret ?_
  cases h
  exact Fz.v

end Go.Proofs
