/- The walks of this seat beside the plain programs, part 0. No condition. -/
import Derived.Test.YthhoomhekolbnaaXLeaseHasEn
namespace Go.Proofs
set_option linter.all false
open Go Go.Cat
variable [M : Mono]
set_option maxRecDepth 100000

theorem w_law22_ask {p_client : Int} {p_kind : Int} {p_from : Int} {p_to : Int} {r : api_Lease} (h : law22_ask p_client p_kind p_from p_to = some r) : Pure Try.prog 30 [(vi p_client), (vi p_kind), (vi p_from), (vi p_to)] (.a [(vi r.Client), (vi r.Ino), (vi r.Kind), (vi r.Span.From), (vi r.Span.To), (vi r.Until), (vi r.Epoch)]) := by
  refine pure_of_ok (n := 15) (c := (Try.f30.body.getD .skip)) Try.tok Try.func30 (by kernel_rfl) rfl rfl (Nat.le_of_ble_eq_true rfl) ?_
  unfold law22_ask at h
  refine Ok.wk (Wk.tab (L := [(0, (vi p_client)), (1, (vi p_kind)), (2, (vi p_from)), (3, (vi p_to))]) (H' := []) ⟨Le.refl _, Le.refl _, Le.refl _, Le.refl _, True.intro⟩ True.intro rfl) ?_
  refine Ok.seq ?_
  refine Ok.region Try.tok ?_
  refine Ok.wk (Wk.tab (L := [(0, (vi p_client)), (1, (vi p_kind)), (2, (vi p_from)), (3, (vi p_to)), (8, (.b 8 0))]) (H' := [(8, .box [(vi (0)), (vi (0)), (vi (0)), (vi (0)), (vi (0)), (vi (0)), (vi (0))])]) ⟨Le.refl _, Le.refl _, Le.refl _, Le.refl _, Le.refl _, True.intro⟩ ⟨⟨_, rfl, .refl _⟩, True.intro⟩ rfl) ?_
  refine Ok.seq ?_
  refine Ok.region Try.tok ?_
  refine ⟨_, rfl, ?_⟩
  refine Ok.wk (Wk.tab (L := [(8, (.b 8 0))]) (H' := [(8, .box [(vi p_client), (vi (5)), (vi p_kind), (vi p_from), (vi p_to), (vi (0)), (vi (0))])]) ⟨Le.refl _, True.intro⟩ ⟨⟨_, rfl, .refl _⟩, True.intro⟩ rfl) ?_
  refine Ok.ret ?_
  cases h
  exact ⟨_, rfl, (Fz.imm rfl)⟩

theorem w_lease_kinded {p_kind : Int} {r : Bool} (h : lease_kinded p_kind = some r) : Pure Try.prog 43 [(vi p_kind)] (vb r) := by
  refine pure_of_ok (n := 9) (c := (Try.f43.body.getD .skip)) Try.tok Try.func43 (by kernel_rfl) rfl rfl (Nat.le_of_ble_eq_true rfl) ?_
  unfold lease_kinded at h
  refine Ok.wk (Wk.tab (L := [(0, (vi p_kind))]) (H' := []) ⟨Le.refl _, True.intro⟩ True.intro rfl) ?_
  refine Ok.seq ?_
  refine Ok.region Try.tok ?_
  refine Ok.wk (Wk.tab (L := [(0, (vi p_kind))]) (H' := []) ⟨Le.refl _, True.intro⟩ True.intro rfl) ?_
  obtain ⟨v1, hv1, h⟩ := bindS h
  refine Ok.seqw ⟨Cat.tab [(2, (vb v1))], []⟩ ?_ ?_
  · refine Ok.region Try.tok ?_
    obtain ⟨c1, hg1, hv1⟩ := bindS hv1
    refine Br.itf hg1 (fun hb hg1 => ?_) fun hb hg1 => ?_
    · cases hg1
      cases hv1
      exact Wk.tab ⟨Le.refl _, True.intro⟩ True.intro rfl
    · cases hg1
      cases hv1
      exact Wk.tab ⟨Le.refl _, True.intro⟩ True.intro rfl
  refine Ok.ret ?_
  cases h
  exact Fz.v

theorem w_lease_spanned {p_s : api_Span} {r : Bool} (h : lease_spanned p_s = some r) : Pure Try.prog 42 [(.a [(vi p_s.From), (vi p_s.To)])] (vb r) := by
  refine pure_of_ok (n := 18) (c := (Try.f42.body.getD .skip)) Try.tok Try.func42 (by kernel_rfl) rfl rfl (Nat.le_of_ble_eq_true rfl) ?_
  unfold lease_spanned at h
  refine Ok.wk (Wk.tab (L := [(0, (.a [(vi p_s.From), (vi p_s.To)]))]) (H' := []) ⟨Le.refl _, True.intro⟩ True.intro rfl) ?_
  refine Ok.seq ?_
  refine Ok.region Try.tok ?_
  refine Ok.wk (Wk.tab (L := [(1, (.b 1 0))]) (H' := [(1, .box [(vi p_s.From), (vi p_s.To)])]) ⟨Le.refl _, True.intro⟩ ⟨⟨_, rfl, .refl _⟩, True.intro⟩ rfl) ?_
  obtain ⟨v1, hv1, h⟩ := bindS h
  refine Ok.seqw ⟨Cat.tab [(2, (vb v1))], []⟩ ?_ ?_
  · refine Ok.region Try.tok ?_
    refine ⟨_, rfl, ?_⟩
    obtain ⟨c1, hg1, hv1⟩ := bindS hv1
    refine Br.ite hg1 (fun hb hg1 => ?_) fun hb hg1 => ?_
    · refine ⟨_, rfl, ⟨_, rfl, ?_⟩⟩
      cases hg1
      obtain ⟨c2, hg2, hv1⟩ := bindS hv1
      refine Br.ite hg2 (fun hb hg2 => ?_) fun hb hg2 => ?_
      · refine ⟨_, rfl, ?_⟩
        cases hg2
        cases hv1
        exact Wk.tab ⟨Le.refl _, True.intro⟩ True.intro rfl
      · cases hg2
        cases hv1
        exact Wk.tab ⟨Le.refl _, True.intro⟩ True.intro rfl
    · cases hg1
      obtain ⟨c2, hg3, hv1⟩ := bindS hv1
      replace hg3 := iteF hg3
      cases hg3
      cases hv1
      exact Wk.tab ⟨Le.refl _, True.intro⟩ True.intro rfl
  refine Ok.ret ?_
  cases h
  exact Fz.v

theorem w_lease_one {p_x : api_Lease} {r : Bool} (h : lease_one p_x = some r) : Pure Try.prog 31 [(.a [(vi p_x.Client), (vi p_x.Ino), (vi p_x.Kind), (vi p_x.Span.From), (vi p_x.Span.To), (vi p_x.Until), (vi p_x.Epoch)])] (vb r) := by
  refine pure_of_ok (n := 41) (c := (Try.f31.body.getD .skip)) Try.tok Try.func31 (by kernel_rfl) rfl rfl (Nat.le_of_ble_eq_true rfl) ?_
  unfold lease_one at h
  refine Ok.wk (Wk.tab (L := [(0, (.a [(vi p_x.Client), (vi p_x.Ino), (vi p_x.Kind), (vi p_x.Span.From), (vi p_x.Span.To), (vi p_x.Until), (vi p_x.Epoch)]))]) (H' := []) ⟨Le.refl _, True.intro⟩ True.intro rfl) ?_
  refine Ok.seq ?_
  refine Ok.region Try.tok ?_
  refine Ok.wk (Wk.tab (L := [(1, (.b 1 0))]) (H' := [(1, .box [(vi p_x.Client), (vi p_x.Ino), (vi p_x.Kind), (vi p_x.Span.From), (vi p_x.Span.To), (vi p_x.Until), (vi p_x.Epoch)])]) ⟨Le.refl _, True.intro⟩ ⟨⟨_, rfl, .refl _⟩, True.intro⟩ rfl) ?_
  obtain ⟨v1, hv1, h⟩ := bindS h
  refine Ok.seqw ⟨Cat.tab [(2, (vb v1))], []⟩ ?_ ?_
  · refine Ok.region Try.tok ?_
    refine ⟨_, rfl, ?_⟩
    obtain ⟨c1, hg1, hv1⟩ := bindS hv1
    refine Br.ite hg1 (fun hb hg1 => ?_) fun hb hg1 => ?_
    · refine ⟨_, rfl, ?_⟩
      cases hg1
      obtain ⟨c2, hg2, hv1⟩ := bindS hv1
      refine Br.ite hg2 (fun hb hg2 => ?_) fun hb hg2 => ?_
      · refine ⟨_, rfl, ?_⟩
        cases hg2
        obtain ⟨c3, hg3, hv1⟩ := bindS hv1
        refine Br.ite hg3 (fun hb hg3 => ?_) fun hb hg3 => ?_
        · obtain ⟨x1, hx1, hg3⟩ := bindS hg3
          refine ⟨_, rfl, ?_⟩
          refine CallOk.call (w_lease_kinded hx1) (LeL.refl _) ?_
          cases hg3
          obtain ⟨c4, hg4, hv1⟩ := bindS hv1
          refine Br.ite hg4 (fun hb hg4 => ?_) fun hb hg4 => ?_
          · obtain ⟨x2, hx2, hg4⟩ := bindS hg4
            refine ⟨_, rfl, ?_⟩
            refine CallOk.call (w_lease_spanned hx2) (LeL.refl _) ?_
            cases hg4
            obtain ⟨c5, hg5, hv1⟩ := bindS hv1
            refine Br.ite hg5 (fun hb hg5 => ?_) fun hb hg5 => ?_
            · refine ⟨_, rfl, ?_⟩
              cases hg5
              obtain ⟨c6, hg6, hv1⟩ := bindS hv1
              refine Br.ite hg6 (fun hb hg6 => ?_) fun hb hg6 => ?_
              · refine ⟨_, rfl, ?_⟩
                cases hg6
                obtain ⟨c7, hg7, hv1⟩ := bindS hv1
                refine Br.ite hg7 (fun hb hg7 => ?_) fun hb hg7 => ?_
                · refine ⟨_, rfl, ?_⟩
                  cases hg7
                  cases hv1
                  exact Wk.tab ⟨Le.refl _, True.intro⟩ True.intro rfl
                · cases hg7
                  cases hv1
                  exact Wk.tab ⟨Le.refl _, True.intro⟩ True.intro rfl
              · cases hg6
                obtain ⟨c7, hg8, hv1⟩ := bindS hv1
                replace hg8 := iteF hg8
                cases hg8
                cases hv1
                exact Wk.tab ⟨Le.refl _, True.intro⟩ True.intro rfl
            · cases hg5
              obtain ⟨c6, hg9, hv1⟩ := bindS hv1
              replace hg9 := iteF hg9
              cases hg9
              obtain ⟨c7, hg10, hv1⟩ := bindS hv1
              replace hg10 := iteF hg10
              cases hg10
              cases hv1
              exact Wk.tab ⟨Le.refl _, True.intro⟩ True.intro rfl
          · cases hg4
            obtain ⟨c5, hg11, hv1⟩ := bindS hv1
            replace hg11 := iteF hg11
            cases hg11
            obtain ⟨c6, hg12, hv1⟩ := bindS hv1
            replace hg12 := iteF hg12
            cases hg12
            obtain ⟨c7, hg13, hv1⟩ := bindS hv1
            replace hg13 := iteF hg13
            cases hg13
            cases hv1
            exact Wk.tab ⟨Le.refl _, True.intro⟩ True.intro rfl
        · cases hg3
          obtain ⟨c4, hg14, hv1⟩ := bindS hv1
          replace hg14 := iteF hg14
          cases hg14
          obtain ⟨c5, hg15, hv1⟩ := bindS hv1
          replace hg15 := iteF hg15
          cases hg15
          obtain ⟨c6, hg16, hv1⟩ := bindS hv1
          replace hg16 := iteF hg16
          cases hg16
          obtain ⟨c7, hg17, hv1⟩ := bindS hv1
          replace hg17 := iteF hg17
          cases hg17
          cases hv1
          exact Wk.tab ⟨Le.refl _, True.intro⟩ True.intro rfl
      · cases hg2
        obtain ⟨c3, hg18, hv1⟩ := bindS hv1
        replace hg18 := iteF hg18
        cases hg18
        obtain ⟨c4, hg19, hv1⟩ := bindS hv1
        replace hg19 := iteF hg19
        cases hg19
        obtain ⟨c5, hg20, hv1⟩ := bindS hv1
        replace hg20 := iteF hg20
        cases hg20
        obtain ⟨c6, hg21, hv1⟩ := bindS hv1
        replace hg21 := iteF hg21
        cases hg21
        obtain ⟨c7, hg22, hv1⟩ := bindS hv1
        replace hg22 := iteF hg22
        cases hg22
        cases hv1
        exact Wk.tab ⟨Le.refl _, True.intro⟩ True.intro rfl
    · cases hg1
      obtain ⟨c2, hg23, hv1⟩ := bindS hv1
      replace hg23 := iteF hg23
      cases hg23
      obtain ⟨c3, hg24, hv1⟩ := bindS hv1
      replace hg24 := iteF hg24
      cases hg24
      obtain ⟨c4, hg25, hv1⟩ := bindS hv1
      replace hg25 := iteF hg25
      cases hg25
      obtain ⟨c5, hg26, hv1⟩ := bindS hv1
      replace hg26 := iteF hg26
      cases hg26
      obtain ⟨c6, hg27, hv1⟩ := bindS hv1
      replace hg27 := iteF hg27
      cases hg27
      obtain ⟨c7, hg28, hv1⟩ := bindS hv1
      replace hg28 := iteF hg28
      cases hg28
      cases hv1
      exact Wk.tab ⟨Le.refl _, True.intro⟩ True.intro rfl
  refine Ok.ret ?_
  cases h
  exact Fz.v

theorem w_lease_Over_1 {p_x : api_Lease} {p_a1_0 : Int} {r : Bool} (h : lease_Over_1 p_x p_a1_0 = some r) : Pure Try.prog 40 [(.a [(vi p_x.Client), (vi p_x.Ino), (vi p_x.Kind), (vi p_x.Span.From), (vi p_x.Span.To), (vi p_x.Until), (vi p_x.Epoch)]), (.p [(vi p_a1_0)])] (vb r) := by
  refine pure_of_ok (n := 8) (c := (Try.f40.body.getD .skip)) Try.tok Try.func40 (by kernel_rfl) rfl rfl (Nat.le_of_ble_eq_true rfl) ?_
  unfold lease_Over_1 at h
  refine Ok.wk (Wk.tab (L := [(0, (.a [(vi p_x.Client), (vi p_x.Ino), (vi p_x.Kind), (vi p_x.Span.From), (vi p_x.Span.To), (vi p_x.Until), (vi p_x.Epoch)])), (1, (.p [(vi p_a1_0)]))]) (H' := []) ⟨Le.refl _, Le.refl _, True.intro⟩ True.intro rfl) ?_
  refine Ok.seq ?_
  refine Ok.region Try.tok ?_
  refine Ok.wk (Wk.tab (L := [(1, (.p [(vi p_a1_0)])), (2, (.b 2 0))]) (H' := [(2, .box [(vi p_x.Client), (vi p_x.Ino), (vi p_x.Kind), (vi p_x.Span.From), (vi p_x.Span.To), (vi p_x.Until), (vi p_x.Epoch)])]) ⟨Le.refl _, Le.refl _, True.intro⟩ ⟨⟨_, rfl, .refl _⟩, True.intro⟩ rfl) ?_
  refine Ok.seq ?_
  refine Ok.region Try.tok ?_
  refine ⟨_, rfl, ⟨_, rfl, ?_⟩⟩
  refine Ok.wk (Wk.tab (L := [(3, (vb ((decide (p_x.Until > p_a1_0)))))]) (H' := []) ⟨Le.refl _, True.intro⟩ True.intro rfl) ?_
  refine Ok.ret ?_
  cases h
  exact Fz.v

theorem wo_lease_kept_api_Lease__lease_Over_1 {p_l : List api_Lease} {p_so_c0 : Int} {r : (List api_Lease)} (h : lease_kept_api_Lease__lease_Over_1 p_l p_so_c0 = some r) : POwn Try.prog 35 [(.s (List.map c_api_Lease p_l)), (.c (.func 40) [] [(.p [(vi p_so_c0)])])] 26 7 (List.map c_api_Lease r) := by
  refine pown_of_ok (n := 23) (c := (Try.f35.body.getD .skip)) Try.tok Try.func35 (by kernel_rfl) rfl rfl (Nat.le_of_ble_eq_true rfl) ?_
  unfold lease_kept_api_Lease__lease_Over_1 at h
  refine Ok.wk (Wk.tab (L := [(0, (.s (List.map c_api_Lease p_l))), (1, (.c (.func 40) [] [(.p [(vi p_so_c0)])]))]) (H' := []) ⟨Le.refl _, Le.refl _, True.intro⟩ True.intro rfl) ?_
  refine Ok.seq ?_
  refine Ok.region Try.tok ?_
  refine Ok.wk (Wk.tab (L := [(0, (.s (List.map c_api_Lease p_l))), (1, (.c (.func 40) [] [(.p [(vi p_so_c0)])]))]) (H' := []) ⟨Le.refl _, Le.refl _, True.intro⟩ True.intro rfl) ?_
  refine Ok.seq ?_
  refine Ok.region Try.tok ?_
  refine Ok.wk (Wk.tab (L := [(0, (.s (List.map c_api_Lease p_l))), (1, (.c (.func 40) [] [(.p [(vi p_so_c0)])])), (5, (.v (.slice none 0 0)))]) (H' := []) ⟨Le.refl _, Le.refl _, Le.refl _, True.intro⟩ True.intro rfl) ?_
  obtain ⟨v1, hv1, h⟩ := bindS h
  refine Ok.seqw ⟨Cat.tab [(5, (.o 20))], [(20, .own 26 7 (List.map c_api_Lease v1))]⟩ ?_ ?_
  · refine Ok.seq ?_
    refine Ok.region Try.tok ?_
    refine ⟨_, List.length_map _, fun _ => ?_⟩
    refine Ok.wk (Wk.tab (L := [(1, (.c (.func 40) [] [(.p [(vi p_so_c0)])])), (5, (.v (.slice none 0 0))), (8, (.s (List.map c_api_Lease p_l))), (9, (vi ((p_l.length : Int)))), (10, (vi (0)))]) (H' := []) ⟨Le.refl _, Le.refl _, Le.refl _, Le.refl _, Le.refl _, True.intro⟩ True.intro rfl) ?_
    refine Ok.block ?_
    refine Ok.loop (fun (s1 : Int × (List api_Lease)) => ⟨Cat.tab [(1, (.c (.func 40) [] [(.p [(vi p_so_c0)])])), (5, (.o 20)), (8, (.s (List.map c_api_Lease p_l))), (9, (vi ((p_l.length : Int)))), (10, (vi s1.1))], [(20, .own 26 7 (List.map c_api_Lease s1.2))]⟩) (lease_kept_api_Lease__lease_Over_1_B1 p_l p_so_c0) (s0 := (0, [])) hv1 ((Wk.own0 (t := 5) (id := 20) (E := 26) (K := 7) rfl rfl).trans (Wk.tab ⟨Le.refl _, Le.refl _, Le.refl _, Le.refl _, Le.refl _, True.intro⟩ ⟨⟨_, rfl, .refl _⟩, True.intro⟩ rfl)) ?_
    intro s1 y1 hB1 hy1
    unfold lease_kept_api_Lease__lease_Over_1_B1 at hB1
    refine Ok.seq ?_
    refine Ok.region Try.tok ?_
    refine Ok.wk (Wk.tab (L := [(1, (.c (.func 40) [] [(.p [(vi p_so_c0)])])), (5, (.o 20)), (8, (.s (List.map c_api_Lease p_l))), (9, (vi ((p_l.length : Int)))), (10, (vi s1.1)), (11, (vb ((decide (s1.1 < (p_l.length : Int))))))]) (H' := [(20, .own 26 7 (List.map c_api_Lease s1.2))]) ⟨Le.refl _, Le.refl _, Le.refl _, Le.refl _, Le.refl _, Le.refl _, True.intro⟩ ⟨⟨_, rfl, .refl _⟩, True.intro⟩ rfl) ?_
    refine Ok.seq ?_
    refine Ok.cond (d := 11) (b := (decide (s1.1 < (p_l.length : Int)))) rfl hB1 (fun hb hB1 => ?_) fun hb hB1 => ?_
    · refine Ok.skip ?_
      obtain ⟨v2, hv2, hB1⟩ := bindS hB1
      refine Ok.seqw ⟨Cat.tab [(1, (.c (.func 40) [] [(.p [(vi p_so_c0)])])), (5, (.o 20)), (8, (.s (List.map c_api_Lease p_l))), (9, (vi ((p_l.length : Int)))), (10, (vi s1.1))], [(20, .own 26 7 (List.map c_api_Lease v2))]⟩ ?_ ?_
      · refine Ok.block ?_
        refine Ok.seq ?_
        refine Ok.region Try.tok ?_
        obtain ⟨x1, hx1, hv2⟩ := bindS hv2
        refine ⟨_, idx_nat hx1, _, idx_row hx1, ⟨_, rfl, ⟨_, rfl, ?_⟩⟩⟩
        refine Ok.wk (Wk.tab (L := [(1, (.c (.func 40) [] [(.p [(vi p_so_c0)])])), (5, (.o 20)), (7, (.b 7 0)), (8, (.s (List.map c_api_Lease p_l))), (9, (vi ((p_l.length : Int)))), (10, (vi s1.1))]) (H' := [(20, .own 26 7 (List.map c_api_Lease s1.2)), (7, .box [(vi x1.Client), (vi x1.Ino), (vi x1.Kind), (vi x1.Span.From), (vi x1.Span.To), (vi x1.Until), (vi x1.Epoch)])]) ⟨Le.refl _, Le.refl _, Le.refl _, Le.refl _, Le.refl _, Le.refl _, True.intro⟩ ⟨⟨_, rfl, .refl _⟩, ⟨_, rfl, .refl _⟩, True.intro⟩ rfl) ?_
        refine Ok.seq ?_
        refine Ok.region Try.tok ?_
        obtain ⟨x2, hx2, hv2⟩ := bindS hv2
        refine ⟨_, rfl, ?_⟩
        refine CallOk.call (w_lease_Over_1 hx2) (LeL.refl _) ?_
        refine Ok.wk (Wk.tab (L := [(1, (.c (.func 40) [] [(.p [(vi p_so_c0)])])), (5, (.o 20)), (7, (.b 7 0)), (8, (.s (List.map c_api_Lease p_l))), (9, (vi ((p_l.length : Int)))), (10, (vi s1.1)), (16, (vb x2))]) (H' := [(20, .own 26 7 (List.map c_api_Lease s1.2)), (7, .box [(vi x1.Client), (vi x1.Ino), (vi x1.Kind), (vi x1.Span.From), (vi x1.Span.To), (vi x1.Until), (vi x1.Epoch)])]) ⟨Le.refl _, Le.refl _, Le.refl _, Le.refl _, Le.refl _, Le.refl _, Le.refl _, True.intro⟩ ⟨⟨_, rfl, .refl _⟩, ⟨_, rfl, .refl _⟩, True.intro⟩ rfl) ?_
        refine Ok.cond (d := 16) (b := x2) rfl hv2 (fun hb hv2 => ?_) fun hb hv2 => ?_
        · refine Ok.region Try.tok ?_
          obtain ⟨hc1, hv2⟩ := chk_some hv2
          refine ⟨_, rfl, Or.inl ⟨rowsLen_map (f := c_api_Lease) (n := 7) (fun _ => rfl) ([x1]), app_b2 (f := c_api_Lease) (l := s1.2) (l' := ([x1])) hc1, _, (List.map_append (f := c_api_Lease) (l₁ := s1.2) (l₂ := ([x1]))).symm, ?_⟩⟩
          cases hv2
          exact Wk.tab ⟨Le.refl _, Le.refl _, Le.refl _, Le.refl _, Le.refl _, True.intro⟩ ⟨⟨_, rfl, .refl _⟩, True.intro⟩ rfl
        · refine Ok.skip ?_
          cases hv2
          exact Wk.tab ⟨Le.refl _, Le.refl _, Le.refl _, Le.refl _, Le.refl _, True.intro⟩ ⟨⟨_, rfl, .refl _⟩, True.intro⟩ rfl
      refine Ok.region Try.tok ?_
      obtain ⟨hc2, hB1⟩ := chk_some hB1
      refine (Or.inl ⟨hc2, ?_⟩)
      exact ⟨_, (Option.some.inj hB1).symm, Wk.tab ⟨Le.refl _, Le.refl _, Le.refl _, Le.refl _, Le.refl _, True.intro⟩ ⟨⟨_, rfl, .refl _⟩, True.intro⟩ rfl⟩
    · refine Ok.exit ?_
      have hB1 := out_ret hB1 hy1
      cases hB1
      exact Wk.tab ⟨Le.refl _, True.intro⟩ ⟨⟨_, rfl, .refl _⟩, True.intro⟩ rfl
  refine Ok.seq ?_
  refine Ok.region Try.tok ?_
  refine Ok.wk (Wk.tab (L := [(4, (.o 20))]) (H' := [(20, .own 26 7 (List.map c_api_Lease v1))]) ⟨Le.refl _, True.intro⟩ ⟨⟨_, rfl, .refl _⟩, True.intro⟩ rfl) ?_
  refine Ok.ret ?_
  cases h
  exact (.inr ⟨_, rfl, rfl⟩)
theorem w_lease_kept_api_Lease__lease_Over_1 {p_l : List api_Lease} {p_so_c0 : Int} {r : (List api_Lease)} (h : lease_kept_api_Lease__lease_Over_1 p_l p_so_c0 = some r) : Pure Try.prog 35 [(.s (List.map c_api_Lease p_l)), (.c (.func 40) [] [(.p [(vi p_so_c0)])])] (.s (List.map c_api_Lease r)) := (wo_lease_kept_api_Lease__lease_Over_1 h).pure

theorem wo_lease_Over {p_l : List api_Lease} {p_now : Int} {r : (List api_Lease)} (h : lease_Over p_l p_now = some r) : POwn Try.prog 17 [(.s (List.map c_api_Lease p_l)), (vi p_now)] 26 7 (List.map c_api_Lease r) := by
  refine pown_of_ok (n := 8) (c := (Try.f17.body.getD .skip)) Try.tok Try.func17 (by kernel_rfl) rfl rfl (Nat.le_of_ble_eq_true rfl) ?_
  unfold lease_Over at h
  refine Ok.wk (Wk.tab (L := [(0, (.s (List.map c_api_Lease p_l))), (1, (vi p_now))]) (H' := []) ⟨Le.refl _, Le.refl _, True.intro⟩ True.intro rfl) ?_
  refine Ok.seq ?_
  refine Ok.region Try.tok ?_
  refine Ok.wk (Wk.tab (L := [(0, (.s (List.map c_api_Lease p_l))), (3, (.b 3 0))]) (H' := [(3, .box [(vi p_now)])]) ⟨Le.refl _, Le.refl _, True.intro⟩ ⟨⟨_, rfl, .refl _⟩, True.intro⟩ rfl) ?_
  refine Ok.seq ?_
  refine Ok.region Try.tok ?_
  obtain ⟨x1, hx1, h⟩ := bindS h
  refine CallOk.ownLend (D := 7) (wo_lease_kept_api_Lease__lease_Over_1 hx1) (.cons Fz.s (.cons (Fz.c .nil (.cons (Fz.b rfl rfl) .nil)) (.nil))) (rowsPlain (f := c_api_Lease) (fun _ => rfl) _) rfl ?_
  refine Ok.wk (Wk.tab (L := [(4, (.o 7))]) (H' := [(7, .own 26 7 (List.map c_api_Lease x1))]) ⟨Le.refl _, True.intro⟩ ⟨⟨_, rfl, .refl _⟩, True.intro⟩ rfl) ?_
  refine Ok.ret ?_
  cases h
  exact (.inr ⟨_, rfl, rfl⟩)
theorem w_lease_Over {p_l : List api_Lease} {p_now : Int} {r : (List api_Lease)} (h : lease_Over p_l p_now = some r) : Pure Try.prog 17 [(.s (List.map c_api_Lease p_l)), (vi p_now)] (.s (List.map c_api_Lease r)) := (wo_lease_Over h).pure

theorem w_lease_clash {p_a : api_Lease} {p_b : api_Lease} {r : Bool} (h : lease_clash p_a p_b = some r) : Pure Try.prog 34 [(.a [(vi p_a.Client), (vi p_a.Ino), (vi p_a.Kind), (vi p_a.Span.From), (vi p_a.Span.To), (vi p_a.Until), (vi p_a.Epoch)]), (.a [(vi p_b.Client), (vi p_b.Ino), (vi p_b.Kind), (vi p_b.Span.From), (vi p_b.Span.To), (vi p_b.Until), (vi p_b.Epoch)])] (vb r) := by
  refine pure_of_ok (n := 44) (c := (Try.f34.body.getD .skip)) Try.tok Try.func34 (by kernel_rfl) rfl rfl (Nat.le_of_ble_eq_true rfl) ?_
  unfold lease_clash at h
  refine Ok.wk (Wk.tab (L := [(0, (.a [(vi p_a.Client), (vi p_a.Ino), (vi p_a.Kind), (vi p_a.Span.From), (vi p_a.Span.To), (vi p_a.Until), (vi p_a.Epoch)])), (1, (.a [(vi p_b.Client), (vi p_b.Ino), (vi p_b.Kind), (vi p_b.Span.From), (vi p_b.Span.To), (vi p_b.Until), (vi p_b.Epoch)]))]) (H' := []) ⟨Le.refl _, Le.refl _, True.intro⟩ True.intro rfl) ?_
  refine Ok.seq ?_
  refine Ok.region Try.tok ?_
  refine Ok.wk (Wk.tab (L := [(2, (.b 2 0)), (3, (.b 3 0))]) (H' := [(2, .box [(vi p_a.Client), (vi p_a.Ino), (vi p_a.Kind), (vi p_a.Span.From), (vi p_a.Span.To), (vi p_a.Until), (vi p_a.Epoch)]), (3, .box [(vi p_b.Client), (vi p_b.Ino), (vi p_b.Kind), (vi p_b.Span.From), (vi p_b.Span.To), (vi p_b.Until), (vi p_b.Epoch)])]) ⟨Le.refl _, Le.refl _, True.intro⟩ ⟨⟨_, rfl, .refl _⟩, ⟨_, rfl, .refl _⟩, True.intro⟩ rfl) ?_
  obtain ⟨v1, hv1, h⟩ := bindS h
  refine Ok.seqw ⟨Cat.tab [(4, (vb v1))], []⟩ ?_ ?_
  · refine Ok.region Try.tok ?_
    refine ⟨_, rfl, ⟨_, rfl, ?_⟩⟩
    obtain ⟨c1, hg1, hv1⟩ := bindS hv1
    refine Br.ite hg1 (fun hb hg1 => ?_) fun hb hg1 => ?_
    · refine ⟨_, rfl, ⟨_, rfl, ?_⟩⟩
      cases hg1
      obtain ⟨c3, hg2, hv1⟩ := bindS hv1
      refine Br.ite hg2 (fun hb hg2 => ?_) fun hb hg2 => ?_
      · refine ⟨_, rfl, ?_⟩
        obtain ⟨c2, hg3, hg2⟩ := bindS hg2
        refine Br.itf hg3 (fun hb hg3 => ?_) fun hb hg3 => ?_
        · cases hg3
          cases hg2
          obtain ⟨c4, hg4, hv1⟩ := bindS hv1
          replace hg4 := iteT hg4
          refine ⟨_, rfl, ⟨_, rfl, ⟨_, rfl, ⟨_, rfl, ⟨_, rfl, ⟨_, rfl, ?_⟩⟩⟩⟩⟩⟩
          cases hg4
          cases hv1
          exact Wk.tab ⟨Le.refl _, True.intro⟩ True.intro rfl
        · refine ⟨_, rfl, ?_⟩
          cases hg3
          cases hg2
          obtain ⟨c4, hg5, hv1⟩ := bindS hv1
          refine Br.ite hg5 (fun hb hg5 => ?_) fun hb hg5 => ?_
          · refine ⟨_, rfl, ⟨_, rfl, ⟨_, rfl, ⟨_, rfl, ⟨_, rfl, ⟨_, rfl, ?_⟩⟩⟩⟩⟩⟩
            cases hg5
            cases hv1
            exact Wk.tab ⟨Le.refl _, True.intro⟩ True.intro rfl
          · cases hg5
            cases hv1
            exact Wk.tab ⟨Le.refl _, True.intro⟩ True.intro rfl
      · cases hg2
        obtain ⟨c4, hg6, hv1⟩ := bindS hv1
        replace hg6 := iteF hg6
        cases hg6
        cases hv1
        exact Wk.tab ⟨Le.refl _, True.intro⟩ True.intro rfl
    · cases hg1
      obtain ⟨c3, hg7, hv1⟩ := bindS hv1
      replace hg7 := iteF hg7
      cases hg7
      obtain ⟨c4, hg8, hv1⟩ := bindS hv1
      replace hg8 := iteF hg8
      cases hg8
      cases hv1
      exact Wk.tab ⟨Le.refl _, True.intro⟩ True.intro rfl
  refine Ok.ret ?_
  cases h
  exact Fz.v

theorem w_lease_Ask_1 {p_x : api_Lease} {p_a1_0 : Int} {p_a1_1 : Int} {p_a1_2 : Int} {p_a1_3 : Int} {p_a1_4 : Int} {p_a1_5 : Int} {p_a1_6 : Int} {r : Bool} (h : lease_Ask_1 p_x p_a1_0 p_a1_1 p_a1_2 p_a1_3 p_a1_4 p_a1_5 p_a1_6 = some r) : Pure Try.prog 36 [(.a [(vi p_x.Client), (vi p_x.Ino), (vi p_x.Kind), (vi p_x.Span.From), (vi p_x.Span.To), (vi p_x.Until), (vi p_x.Epoch)]), (.p [(vi p_a1_0), (vi p_a1_1), (vi p_a1_2), (vi p_a1_3), (vi p_a1_4), (vi p_a1_5), (vi p_a1_6)])] (vb r) := by
  refine pure_of_ok (n := 7) (c := (Try.f36.body.getD .skip)) Try.tok Try.func36 (by kernel_rfl) rfl rfl (Nat.le_of_ble_eq_true rfl) ?_
  unfold lease_Ask_1 at h
  refine Ok.wk (Wk.tab (L := [(0, (.a [(vi p_x.Client), (vi p_x.Ino), (vi p_x.Kind), (vi p_x.Span.From), (vi p_x.Span.To), (vi p_x.Until), (vi p_x.Epoch)])), (1, (.p [(vi p_a1_0), (vi p_a1_1), (vi p_a1_2), (vi p_a1_3), (vi p_a1_4), (vi p_a1_5), (vi p_a1_6)]))]) (H' := []) ⟨Le.refl _, Le.refl _, True.intro⟩ True.intro rfl) ?_
  refine Ok.seq ?_
  refine Ok.region Try.tok ?_
  refine Ok.wk (Wk.tab (L := [(1, (.p [(vi p_a1_0), (vi p_a1_1), (vi p_a1_2), (vi p_a1_3), (vi p_a1_4), (vi p_a1_5), (vi p_a1_6)])), (2, (.b 2 0))]) (H' := [(2, .box [(vi p_x.Client), (vi p_x.Ino), (vi p_x.Kind), (vi p_x.Span.From), (vi p_x.Span.To), (vi p_x.Until), (vi p_x.Epoch)])]) ⟨Le.refl _, Le.refl _, True.intro⟩ ⟨⟨_, rfl, .refl _⟩, True.intro⟩ rfl) ?_
  refine Ok.seq ?_
  refine Ok.region Try.tok ?_
  obtain ⟨x1, hx1, h⟩ := bindS h
  refine ⟨_, rfl, ⟨_, rfl, ?_⟩⟩
  refine CallOk.call (w_lease_clash hx1) (LeL.refl _) ?_
  refine Ok.wk (Wk.tab (L := [(3, (vb x1))]) (H' := []) ⟨Le.refl _, True.intro⟩ True.intro rfl) ?_
  refine Ok.ret ?_
  cases h
  exact Fz.v

theorem wo_lease_kept_api_Lease__lease_Ask_1 {p_l : List api_Lease} {p_so_c0 : api_Lease} {r : (List api_Lease)} (h : lease_kept_api_Lease__lease_Ask_1 p_l p_so_c0 = some r) : POwn Try.prog 35 [(.s (List.map c_api_Lease p_l)), (.c (.func 36) [] [(.p [(vi p_so_c0.Client), (vi p_so_c0.Ino), (vi p_so_c0.Kind), (vi p_so_c0.Span.From), (vi p_so_c0.Span.To), (vi p_so_c0.Until), (vi p_so_c0.Epoch)])])] 26 7 (List.map c_api_Lease r) := by
  refine pown_of_ok (n := 23) (c := (Try.f35.body.getD .skip)) Try.tok Try.func35 (by kernel_rfl) rfl rfl (Nat.le_of_ble_eq_true rfl) ?_
  unfold lease_kept_api_Lease__lease_Ask_1 at h
  refine Ok.wk (Wk.tab (L := [(0, (.s (List.map c_api_Lease p_l))), (1, (.c (.func 36) [] [(.p [(vi p_so_c0.Client), (vi p_so_c0.Ino), (vi p_so_c0.Kind), (vi p_so_c0.Span.From), (vi p_so_c0.Span.To), (vi p_so_c0.Until), (vi p_so_c0.Epoch)])]))]) (H' := []) ⟨Le.refl _, Le.refl _, True.intro⟩ True.intro rfl) ?_
  refine Ok.seq ?_
  refine Ok.region Try.tok ?_
  refine Ok.wk (Wk.tab (L := [(0, (.s (List.map c_api_Lease p_l))), (1, (.c (.func 36) [] [(.p [(vi p_so_c0.Client), (vi p_so_c0.Ino), (vi p_so_c0.Kind), (vi p_so_c0.Span.From), (vi p_so_c0.Span.To), (vi p_so_c0.Until), (vi p_so_c0.Epoch)])]))]) (H' := []) ⟨Le.refl _, Le.refl _, True.intro⟩ True.intro rfl) ?_
  refine Ok.seq ?_
  refine Ok.region Try.tok ?_
  refine Ok.wk (Wk.tab (L := [(0, (.s (List.map c_api_Lease p_l))), (1, (.c (.func 36) [] [(.p [(vi p_so_c0.Client), (vi p_so_c0.Ino), (vi p_so_c0.Kind), (vi p_so_c0.Span.From), (vi p_so_c0.Span.To), (vi p_so_c0.Until), (vi p_so_c0.Epoch)])])), (5, (.v (.slice none 0 0)))]) (H' := []) ⟨Le.refl _, Le.refl _, Le.refl _, True.intro⟩ True.intro rfl) ?_
  obtain ⟨v1, hv1, h⟩ := bindS h
  refine Ok.seqw ⟨Cat.tab [(5, (.o 20))], [(20, .own 26 7 (List.map c_api_Lease v1))]⟩ ?_ ?_
  · refine Ok.seq ?_
    refine Ok.region Try.tok ?_
    refine ⟨_, List.length_map _, fun _ => ?_⟩
    refine Ok.wk (Wk.tab (L := [(1, (.c (.func 36) [] [(.p [(vi p_so_c0.Client), (vi p_so_c0.Ino), (vi p_so_c0.Kind), (vi p_so_c0.Span.From), (vi p_so_c0.Span.To), (vi p_so_c0.Until), (vi p_so_c0.Epoch)])])), (5, (.v (.slice none 0 0))), (8, (.s (List.map c_api_Lease p_l))), (9, (vi ((p_l.length : Int)))), (10, (vi (0)))]) (H' := []) ⟨Le.refl _, Le.refl _, Le.refl _, Le.refl _, Le.refl _, True.intro⟩ True.intro rfl) ?_
    refine Ok.block ?_
    refine Ok.loop (fun (s1 : Int × (List api_Lease)) => ⟨Cat.tab [(1, (.c (.func 36) [] [(.p [(vi p_so_c0.Client), (vi p_so_c0.Ino), (vi p_so_c0.Kind), (vi p_so_c0.Span.From), (vi p_so_c0.Span.To), (vi p_so_c0.Until), (vi p_so_c0.Epoch)])])), (5, (.o 20)), (8, (.s (List.map c_api_Lease p_l))), (9, (vi ((p_l.length : Int)))), (10, (vi s1.1))], [(20, .own 26 7 (List.map c_api_Lease s1.2))]⟩) (lease_kept_api_Lease__lease_Ask_1_B1 p_l p_so_c0) (s0 := (0, [])) hv1 ((Wk.own0 (t := 5) (id := 20) (E := 26) (K := 7) rfl rfl).trans (Wk.tab ⟨Le.refl _, Le.refl _, Le.refl _, Le.refl _, Le.refl _, True.intro⟩ ⟨⟨_, rfl, .refl _⟩, True.intro⟩ rfl)) ?_
    intro s1 y1 hB1 hy1
    unfold lease_kept_api_Lease__lease_Ask_1_B1 at hB1
    refine Ok.seq ?_
    refine Ok.region Try.tok ?_
    refine Ok.wk (Wk.tab (L := [(1, (.c (.func 36) [] [(.p [(vi p_so_c0.Client), (vi p_so_c0.Ino), (vi p_so_c0.Kind), (vi p_so_c0.Span.From), (vi p_so_c0.Span.To), (vi p_so_c0.Until), (vi p_so_c0.Epoch)])])), (5, (.o 20)), (8, (.s (List.map c_api_Lease p_l))), (9, (vi ((p_l.length : Int)))), (10, (vi s1.1)), (11, (vb ((decide (s1.1 < (p_l.length : Int))))))]) (H' := [(20, .own 26 7 (List.map c_api_Lease s1.2))]) ⟨Le.refl _, Le.refl _, Le.refl _, Le.refl _, Le.refl _, Le.refl _, True.intro⟩ ⟨⟨_, rfl, .refl _⟩, True.intro⟩ rfl) ?_
    refine Ok.seq ?_
    refine Ok.cond (d := 11) (b := (decide (s1.1 < (p_l.length : Int)))) rfl hB1 (fun hb hB1 => ?_) fun hb hB1 => ?_
    · refine Ok.skip ?_
      obtain ⟨v2, hv2, hB1⟩ := bindS hB1
      refine Ok.seqw ⟨Cat.tab [(1, (.c (.func 36) [] [(.p [(vi p_so_c0.Client), (vi p_so_c0.Ino), (vi p_so_c0.Kind), (vi p_so_c0.Span.From), (vi p_so_c0.Span.To), (vi p_so_c0.Until), (vi p_so_c0.Epoch)])])), (5, (.o 20)), (8, (.s (List.map c_api_Lease p_l))), (9, (vi ((p_l.length : Int)))), (10, (vi s1.1))], [(20, .own 26 7 (List.map c_api_Lease v2))]⟩ ?_ ?_
      · refine Ok.block ?_
        refine Ok.seq ?_
        refine Ok.region Try.tok ?_
        obtain ⟨x1, hx1, hv2⟩ := bindS hv2
        refine ⟨_, idx_nat hx1, _, idx_row hx1, ⟨_, rfl, ⟨_, rfl, ?_⟩⟩⟩
        refine Ok.wk (Wk.tab (L := [(1, (.c (.func 36) [] [(.p [(vi p_so_c0.Client), (vi p_so_c0.Ino), (vi p_so_c0.Kind), (vi p_so_c0.Span.From), (vi p_so_c0.Span.To), (vi p_so_c0.Until), (vi p_so_c0.Epoch)])])), (5, (.o 20)), (7, (.b 7 0)), (8, (.s (List.map c_api_Lease p_l))), (9, (vi ((p_l.length : Int)))), (10, (vi s1.1))]) (H' := [(20, .own 26 7 (List.map c_api_Lease s1.2)), (7, .box [(vi x1.Client), (vi x1.Ino), (vi x1.Kind), (vi x1.Span.From), (vi x1.Span.To), (vi x1.Until), (vi x1.Epoch)])]) ⟨Le.refl _, Le.refl _, Le.refl _, Le.refl _, Le.refl _, Le.refl _, True.intro⟩ ⟨⟨_, rfl, .refl _⟩, ⟨_, rfl, .refl _⟩, True.intro⟩ rfl) ?_
        refine Ok.seq ?_
        refine Ok.region Try.tok ?_
        obtain ⟨x2, hx2, hv2⟩ := bindS hv2
        refine ⟨_, rfl, ?_⟩
        refine CallOk.call (w_lease_Ask_1 hx2) (LeL.refl _) ?_
        refine Ok.wk (Wk.tab (L := [(1, (.c (.func 36) [] [(.p [(vi p_so_c0.Client), (vi p_so_c0.Ino), (vi p_so_c0.Kind), (vi p_so_c0.Span.From), (vi p_so_c0.Span.To), (vi p_so_c0.Until), (vi p_so_c0.Epoch)])])), (5, (.o 20)), (7, (.b 7 0)), (8, (.s (List.map c_api_Lease p_l))), (9, (vi ((p_l.length : Int)))), (10, (vi s1.1)), (16, (vb x2))]) (H' := [(20, .own 26 7 (List.map c_api_Lease s1.2)), (7, .box [(vi x1.Client), (vi x1.Ino), (vi x1.Kind), (vi x1.Span.From), (vi x1.Span.To), (vi x1.Until), (vi x1.Epoch)])]) ⟨Le.refl _, Le.refl _, Le.refl _, Le.refl _, Le.refl _, Le.refl _, Le.refl _, True.intro⟩ ⟨⟨_, rfl, .refl _⟩, ⟨_, rfl, .refl _⟩, True.intro⟩ rfl) ?_
        refine Ok.cond (d := 16) (b := x2) rfl hv2 (fun hb hv2 => ?_) fun hb hv2 => ?_
        · refine Ok.region Try.tok ?_
          obtain ⟨hc1, hv2⟩ := chk_some hv2
          refine ⟨_, rfl, Or.inl ⟨rowsLen_map (f := c_api_Lease) (n := 7) (fun _ => rfl) ([x1]), app_b2 (f := c_api_Lease) (l := s1.2) (l' := ([x1])) hc1, _, (List.map_append (f := c_api_Lease) (l₁ := s1.2) (l₂ := ([x1]))).symm, ?_⟩⟩
          cases hv2
          exact Wk.tab ⟨Le.refl _, Le.refl _, Le.refl _, Le.refl _, Le.refl _, True.intro⟩ ⟨⟨_, rfl, .refl _⟩, True.intro⟩ rfl
        · refine Ok.skip ?_
          cases hv2
          exact Wk.tab ⟨Le.refl _, Le.refl _, Le.refl _, Le.refl _, Le.refl _, True.intro⟩ ⟨⟨_, rfl, .refl _⟩, True.intro⟩ rfl
      refine Ok.region Try.tok ?_
      obtain ⟨hc2, hB1⟩ := chk_some hB1
      refine (Or.inl ⟨hc2, ?_⟩)
      exact ⟨_, (Option.some.inj hB1).symm, Wk.tab ⟨Le.refl _, Le.refl _, Le.refl _, Le.refl _, Le.refl _, True.intro⟩ ⟨⟨_, rfl, .refl _⟩, True.intro⟩ rfl⟩
    · refine Ok.exit ?_
      have hB1 := out_ret hB1 hy1
      cases hB1
      exact Wk.tab ⟨Le.refl _, True.intro⟩ ⟨⟨_, rfl, .refl _⟩, True.intro⟩ rfl
  refine Ok.seq ?_
  refine Ok.region Try.tok ?_
  refine Ok.wk (Wk.tab (L := [(4, (.o 20))]) (H' := [(20, .own 26 7 (List.map c_api_Lease v1))]) ⟨Le.refl _, True.intro⟩ ⟨⟨_, rfl, .refl _⟩, True.intro⟩ rfl) ?_
  refine Ok.ret ?_
  cases h
  exact (.inr ⟨_, rfl, rfl⟩)
theorem w_lease_kept_api_Lease__lease_Ask_1 {p_l : List api_Lease} {p_so_c0 : api_Lease} {r : (List api_Lease)} (h : lease_kept_api_Lease__lease_Ask_1 p_l p_so_c0 = some r) : Pure Try.prog 35 [(.s (List.map c_api_Lease p_l)), (.c (.func 36) [] [(.p [(vi p_so_c0.Client), (vi p_so_c0.Ino), (vi p_so_c0.Kind), (vi p_so_c0.Span.From), (vi p_so_c0.Span.To), (vi p_so_c0.Until), (vi p_so_c0.Epoch)])])] (.s (List.map c_api_Lease r)) := (wo_lease_kept_api_Lease__lease_Ask_1 h).pure

theorem wg_slices_Values_int_int {p_s : List Int} {r : Unit} (h : slices_Values_int_int p_s = some r) : CallOk Try.prog 58 [(.s (List.map Go.Cat.encI p_s))] ⟨noSlots, []⟩ fun x s => x = (.c (.func 68) [] [(.b 1 0)]) ∧ s.H = [(1, .box [(.s (List.map Go.Cat.encI p_s))])] := by
  refine pgen_of_ok (n := 4) (c := (Try.f58.body.getD .skip)) Try.tok Try.func58 (by kernel_rfl) rfl rfl (Nat.le_of_ble_eq_true rfl) ?_
  unfold slices_Values_int_int at h
  refine Ok.wk (Wk.tab (L := [(0, (.s (List.map Go.Cat.encI p_s)))]) (H' := []) ⟨Le.refl _, True.intro⟩ True.intro rfl) ?_
  refine Ok.seq ?_
  refine Ok.region Try.tok ?_
  refine Ok.wk (Wk.tab (L := [(1, (.b 1 0))]) (H' := [(1, .box [(.s (List.map Go.Cat.encI p_s))])]) ⟨Le.refl _, True.intro⟩ ⟨⟨_, rfl, .refl _⟩, True.intro⟩ rfl) ?_
  refine Ok.seq ?_
  refine Ok.region Try.tok ?_
  refine Ok.wk (Wk.tab (L := [(2, (.c (.func 68) [] [(.b 1 0)]))]) (H' := [(1, .box [(.s (List.map Go.Cat.encI p_s))])]) ⟨Le.refl _, True.intro⟩ ⟨⟨_, rfl, .refl _⟩, True.intro⟩ rfl) ?_
  refine Ok.ret ?_
  cases h
  exact Wk.tab ⟨Le.refl _, True.intro⟩ ⟨⟨_, rfl, .refl _⟩, True.intro⟩ rfl

theorem wg_slices_Compact_int_int {p_h0 : List Int} {r : (List Int)} (h : slices_Compact_int_int p_h0 = some r) : CallOk Try.prog 59 [(.o 1000)] ⟨noSlots, [(1000, .own 3 1 (List.map Go.Cat.encI p_h0))]⟩ fun x s => x = (.o 999) ∧ s.H = [(999, .own 3 1 (List.map Go.Cat.encI r))] := by
  refine pgen_of_ok (n := 61) (c := (Try.f59.body.getD .skip)) Try.tok Try.func59 (by kernel_rfl) rfl rfl (Nat.le_of_ble_eq_true rfl) ?_
  unfold slices_Compact_int_int at h
  refine Ok.wk (Wk.tab (L := [(0, (.o 1000))]) (H' := [(1000, .own 3 1 (List.map Go.Cat.encI p_h0))]) ⟨Le.refl _, True.intro⟩ ⟨⟨_, rfl, .refl _⟩, True.intro⟩ rfl) ?_
  refine Ok.seq ?_
  refine Ok.region Try.tok ?_
  refine Ok.wk (Wk.tab (L := [(0, (.o 1000))]) (H' := [(1000, .own 3 1 (List.map Go.Cat.encI p_h0))]) ⟨Le.refl _, True.intro⟩ ⟨⟨_, rfl, .refl _⟩, True.intro⟩ rfl) ?_
  refine Ok.seq ?_
  refine Ok.seq ?_
  refine Ok.region Try.tok ?_
  refine ⟨_, List.length_map _, fun _ => ?_⟩
  refine Ok.wk (Wk.tab (L := [(0, (.o 1000)), (8, (vb ((decide ((p_h0.length : Int) < 2)))))]) (H' := [(1000, .own 3 1 (List.map Go.Cat.encI p_h0))]) ⟨Le.refl _, Le.refl _, True.intro⟩ ⟨⟨_, rfl, .refl _⟩, True.intro⟩ rfl) ?_
  refine Ok.cond (d := 8) (b := (decide ((p_h0.length : Int) < 2))) rfl h (fun hb h => ?_) fun hb h => ?_
  · refine Ok.seq ?_
    refine Ok.region Try.tok ?_
    refine Ok.wk (Wk.tab (L := [(2, (.o 1000))]) (H' := [(1000, .own 3 1 (List.map Go.Cat.encI p_h0))]) ⟨Le.refl _, True.intro⟩ ⟨⟨_, rfl, .refl _⟩, True.intro⟩ rfl) ?_
    refine Ok.ret ?_
    cases h
    exact (Wk.mv (i := 1000) (d := 999) rfl rfl rfl).trans (Wk.tab ⟨Le.refl _, True.intro⟩ ⟨⟨_, rfl, .refl _⟩, True.intro⟩ rfl)
  · refine Ok.skip ?_
    refine Ok.seqj (fun v1 => ⟨Cat.tab [(0, (.o 1000))], [(1000, .own 3 1 (List.map Go.Cat.encI p_h0))]⟩) (fun v1 => slices_Compact_int_int_J1 p_h0 v1 = some r) ?_ ?_
    · refine Ok.seq ?_
      refine Ok.region Try.tok ?_
      refine Ok.wk (Wk.tab (L := [(0, (.o 1000)), (3, (vi (1)))]) (H' := [(1000, .own 3 1 (List.map Go.Cat.encI p_h0))]) ⟨Le.refl _, Le.refl _, True.intro⟩ ⟨⟨_, rfl, .refl _⟩, True.intro⟩ rfl) ?_
      refine Ok.block ?_
      refine Ok.loop (fun (s1 : Int) => ⟨Cat.tab [(0, (.o 1000)), (3, (vi s1))], [(1000, .own 3 1 (List.map Go.Cat.encI p_h0))]⟩) (slices_Compact_int_int_B1 p_h0) (s0 := 1) h (Wk.tab ⟨Le.refl _, Le.refl _, True.intro⟩ ⟨⟨_, rfl, .refl _⟩, True.intro⟩ rfl) ?_
      intro s1 y1 hB1 hy1
      unfold slices_Compact_int_int_B1 at hB1
      refine Ok.seq ?_
      refine Ok.seq ?_
      refine Ok.region Try.tok ?_
      refine ⟨_, List.length_map _, fun _ => ?_⟩
      refine Ok.wk (Wk.tab (L := [(0, (.o 1000)), (3, (vi s1)), (13, (vb ((decide (s1 < (p_h0.length : Int))))))]) (H' := [(1000, .own 3 1 (List.map Go.Cat.encI p_h0))]) ⟨Le.refl _, Le.refl _, Le.refl _, True.intro⟩ ⟨⟨_, rfl, .refl _⟩, True.intro⟩ rfl) ?_
      refine Ok.cond (d := 13) (b := (decide (s1 < (p_h0.length : Int)))) rfl hB1 (fun hb hB1 => ?_) fun hb hB1 => ?_
      · refine Ok.skip ?_
        refine Ok.seqj (fun v2 => ⟨Cat.tab [(0, (.o 1000)), (3, (vi s1))], [(1000, .own 3 1 (List.map Go.Cat.encI p_h0))]⟩) (fun v2 => slices_Compact_int_int_J2 s1 v2 = some y1) ?_ ?_
        · refine Ok.block ?_
          refine Ok.seq ?_
          refine Ok.draw (m := 10) (MD := ⟨[]⟩) (CH := ⟨[]⟩) Try.tok Try.mixed (by kernel_rfl) ?_
          obtain ⟨x1, hx1, hB1⟩ := bindS hB1
          obtain ⟨hc1, hB1⟩ := chk_some hB1
          obtain ⟨x2, hx2, hB1⟩ := bindS hB1
          refine ⟨_, rfl, ⟨_, rfl, ⟨_, ⟨_, idx_nat hx1, idx_ltm hx1, rfl⟩, ⟨_, ⟨_, idx_row hx1, rfl, _, rfl, rfl⟩, ⟨_, rfl, ⟨_, rfl, ⟨_, (Or.inl ⟨hc1, rfl⟩), ⟨_, ⟨_, idx_nat hx2, idx_ltm hx2, rfl⟩, ⟨_, ⟨_, idx_row hx2, rfl, _, rfl, rfl⟩, ⟨_, rfl, ⟨True.intro, ?_⟩⟩⟩⟩⟩⟩⟩⟩⟩⟩⟩
          refine Ok.wk (Wk.tab (L := [(0, (.o 1000)), (3, (vi s1)), (25, (vb ((x1 == x2))))]) (H' := [(1000, .own 3 1 (List.map Go.Cat.encI p_h0))]) ⟨Le.refl _, Le.refl _, Le.refl _, True.intro⟩ ⟨⟨_, rfl, .refl _⟩, True.intro⟩ rfl) ?_
          refine Ok.cond (d := 25) (b := (x1 == x2)) rfl hB1 (fun hb hB1 => ?_) fun hb hB1 => ?_
          · refine Ok.seq ?_
            refine Ok.region Try.tok ?_
            obtain ⟨hc2, hB1⟩ := chk_some hB1
            refine ⟨_, sl_nat hc2.1, sl_own hc2, ?_⟩
            refine Ok.wk (Wk.tab (L := [(0, (.o 1000)), (3, (vi s1)), (4, (.w 1000 1 s1.toNat))]) (H' := [(1000, .own 3 1 (List.map Go.Cat.encI p_h0))]) ⟨Le.refl _, Le.refl _, Le.refl _, True.intro⟩ ⟨⟨_, rfl, .refl _⟩, True.intro⟩ rfl) ?_
            obtain ⟨v3, hv3, hB1⟩ := bindS hB1
            refine Ok.seqw ⟨Cat.tab [(0, (.o 1000)), (3, (vi v3.1))], [(1000, .own 3 1 (List.map Go.Cat.encI v3.2))]⟩ ?_ ?_
            · refine Ok.seq ?_
              refine Ok.region Try.tok ?_
              refine Ok.wk (Wk.tab (L := [(0, (.o 1000)), (3, (vi s1)), (4, (.w 1000 1 s1.toNat)), (5, (vi (1)))]) (H' := [(1000, .own 3 1 (List.map Go.Cat.encI p_h0))]) ⟨Le.refl _, Le.refl _, Le.refl _, Le.refl _, True.intro⟩ ⟨⟨_, rfl, .refl _⟩, True.intro⟩ rfl) ?_
              refine Ok.block ?_
              refine Ok.loop (fun (s2 : Int × Int × (List Int)) => ⟨Cat.tab [(0, (.o 1000)), (3, (vi s2.1)), (4, (.w 1000 1 s1.toNat)), (5, (vi s2.2.1))], [(1000, .own 3 1 (List.map Go.Cat.encI s2.2.2))]⟩) (slices_Compact_int_int_B2 s1) (s0 := (s1, 1, p_h0)) hv3 (Wk.tab ⟨Le.refl _, Le.refl _, Le.refl _, Le.refl _, True.intro⟩ ⟨⟨_, rfl, .refl _⟩, True.intro⟩ rfl) ?_
              intro s2 y2 hB2 hy2
              unfold slices_Compact_int_int_B2 at hB2
              refine Ok.seq ?_
              refine Ok.seq ?_
              refine Ok.region Try.tok ?_
              refine ⟨_, wlen _ _, fun _ => ?_⟩
              refine Ok.wk (Wk.tab (L := [(0, (.o 1000)), (3, (vi s2.1)), (4, (.w 1000 1 s1.toNat)), (5, (vi s2.2.1)), (32, (vb ((decide (s2.2.1 < ((s2.2.2.drop s1.toNat).length : Int))))))]) (H' := [(1000, .own 3 1 (List.map Go.Cat.encI s2.2.2))]) ⟨Le.refl _, Le.refl _, Le.refl _, Le.refl _, Le.refl _, True.intro⟩ ⟨⟨_, rfl, .refl _⟩, True.intro⟩ rfl) ?_
              refine Ok.cond (d := 32) (b := (decide (s2.2.1 < ((s2.2.2.drop s1.toNat).length : Int)))) rfl hB2 (fun hb hB2 => ?_) fun hb hB2 => ?_
              · refine Ok.skip ?_
                obtain ⟨v4, hv4, hB2⟩ := bindS hB2
                refine Ok.seqw ⟨Cat.tab [(0, (.o 1000)), (3, (vi v4.1)), (4, (.w 1000 1 s1.toNat)), (5, (vi s2.2.1))], [(1000, .own 3 1 (List.map Go.Cat.encI v4.2))]⟩ ?_ ?_
                · refine Ok.block ?_
                  refine Ok.seq ?_
                  refine Ok.draw (m := 10) (MD := ⟨[]⟩) (CH := ⟨[]⟩) Try.tok Try.mixed (by kernel_rfl) ?_
                  obtain ⟨x3, hx3, hv4⟩ := bindS hv4
                  obtain ⟨hc3, hv4⟩ := chk_some hv4
                  obtain ⟨x4, hx4, hv4⟩ := bindS hv4
                  refine ⟨_, rfl, ⟨_, rfl, ⟨_, ⟨_, idx_nat hx3, idx_ltd hx3, rfl⟩, ⟨_, ⟨_, idx_rowd hx3, rfl, _, rfl, rfl⟩, ⟨_, rfl, ⟨_, rfl, ⟨_, (Or.inl ⟨hc3, rfl⟩), ⟨_, ⟨_, idx_nat hx4, idx_ltd hx4, rfl⟩, ⟨_, ⟨_, idx_rowd hx4, rfl, _, rfl, rfl⟩, ⟨_, rfl, ⟨True.intro, ?_⟩⟩⟩⟩⟩⟩⟩⟩⟩⟩⟩
                  refine Ok.wk (Wk.tab (L := [(0, (.o 1000)), (3, (vi s2.1)), (4, (.w 1000 1 s1.toNat)), (5, (vi s2.2.1)), (44, (vb ((x3 != x4))))]) (H' := [(1000, .own 3 1 (List.map Go.Cat.encI s2.2.2))]) ⟨Le.refl _, Le.refl _, Le.refl _, Le.refl _, Le.refl _, True.intro⟩ ⟨⟨_, rfl, .refl _⟩, True.intro⟩ rfl) ?_
                  refine Ok.cond (d := 44) (b := (x3 != x4)) rfl hv4 (fun hb hv4 => ?_) fun hb hv4 => ?_
                  · refine Ok.seq ?_
                    refine Ok.region Try.tok ?_
                    obtain ⟨x5, hx5, hv4⟩ := bindS hv4
                    obtain ⟨x6, hx6, hv4⟩ := bindS hv4
                    refine ⟨_, idx_nat hx5, idx_ltd hx5, ⟨_, idx_rowd hx5, rfl, _, rfl, ⟨_, idx_nat hx6, idx_ltm hx6, ⟨_, idx_row hx6, rfl, _, rfl, _, set_row (f := Go.Cat.encI) (x := x5), ?_⟩⟩⟩⟩
                    refine Ok.wk (Wk.tab (L := [(0, (.o 1000)), (3, (vi s2.1)), (4, (.w 1000 1 s1.toNat)), (5, (vi s2.2.1))]) (H' := [(1000, .own 3 1 (List.map Go.Cat.encI ((s2.2.2.set s2.1.toNat x5))))]) ⟨Le.refl _, Le.refl _, Le.refl _, Le.refl _, True.intro⟩ ⟨⟨_, rfl, .refl _⟩, True.intro⟩ rfl) ?_
                    refine Ok.region Try.tok ?_
                    obtain ⟨hc4, hv4⟩ := chk_some hv4
                    refine (Or.inl ⟨hc4, ?_⟩)
                    cases hv4
                    exact Wk.tab ⟨Le.refl _, Le.refl _, Le.refl _, Le.refl _, True.intro⟩ ⟨⟨_, rfl, .refl _⟩, True.intro⟩ rfl
                  · refine Ok.skip ?_
                    cases hv4
                    exact Wk.tab ⟨Le.refl _, Le.refl _, Le.refl _, Le.refl _, True.intro⟩ ⟨⟨_, rfl, .refl _⟩, True.intro⟩ rfl
                refine Ok.region Try.tok ?_
                obtain ⟨hc5, hB2⟩ := chk_some hB2
                refine (Or.inl ⟨hc5, ?_⟩)
                exact ⟨_, (Option.some.inj hB2).symm, Wk.tab ⟨Le.refl _, Le.refl _, Le.refl _, Le.refl _, True.intro⟩ ⟨⟨_, rfl, .refl _⟩, True.intro⟩ rfl⟩
              · refine Ok.exit ?_
                have hB2 := out_ret hB2 hy2
                cases hB2
                exact Wk.tab ⟨Le.refl _, Le.refl _, True.intro⟩ ⟨⟨_, rfl, .refl _⟩, True.intro⟩ rfl
            refine Ok.seq ?_
            refine Ok.region Try.tok ?_
            obtain ⟨hc6, hB1⟩ := chk_some hB1
            refine ⟨_, sl_nat hc6.1, sl_own hc6, ⟨_, clr_rows (f := Go.Cat.encI) (z := (0 : Int)) v3.2 (v3.1.toNat), ?_⟩⟩
            refine Ok.wk (Wk.tab (L := [(0, (.o 1000)), (3, (vi v3.1))]) (H' := [(1000, .own 3 1 (List.map Go.Cat.encI ((v3.2.take (v3.1.toNat) ++ List.replicate (v3.2.length - (v3.1.toNat)) (0 : Int)))))]) ⟨Le.refl _, Le.refl _, True.intro⟩ ⟨⟨_, rfl, .refl _⟩, True.intro⟩ rfl) ?_
            refine Ok.seq ?_
            refine Ok.wk (Wk.mv (i := 1000) (d := 999) rfl rfl rfl) ?_
            refine Ok.region Try.tok ?_
            obtain ⟨hc7, hB1⟩ := chk_some hB1
            refine ⟨_, sl_nat hc7.1, sl_own hc7, _, (List.map_take (f := Go.Cat.encI)).symm, ?_⟩
            refine Ok.wk (Wk.tab (L := [(2, (.o 999))]) (H' := [(999, .own 3 1 (List.map Go.Cat.encI ((((v3.2.take (v3.1.toNat) ++ List.replicate (v3.2.length - (v3.1.toNat)) (0 : Int))).take v3.1.toNat))))]) ⟨Le.refl _, True.intro⟩ ⟨⟨_, rfl, .refl _⟩, True.intro⟩ rfl) ?_
            refine Ok.ret ?_
            have hB1 := out_ret hB1 hy1
            cases hB1
            exact Wk.tab ⟨Le.refl _, True.intro⟩ ⟨⟨_, rfl, .refl _⟩, True.intro⟩ rfl
          · refine Ok.skip ?_
            exact ⟨_, hB1, Wk.tab ⟨Le.refl _, Le.refl _, True.intro⟩ ⟨⟨_, rfl, .refl _⟩, True.intro⟩ rfl⟩
        intro v2 hB1
        unfold slices_Compact_int_int_J2 at hB1
        refine Ok.region Try.tok ?_
        obtain ⟨hc8, hB1⟩ := chk_some hB1
        refine (Or.inl ⟨hc8, ?_⟩)
        exact ⟨_, (Option.some.inj hB1).symm, Wk.tab ⟨Le.refl _, Le.refl _, True.intro⟩ ⟨⟨_, rfl, .refl _⟩, True.intro⟩ rfl⟩
      · refine Ok.exit ?_
        have hB1 := out_ret hB1 hy1
        exact ⟨_, hB1, Wk.tab ⟨Le.refl _, True.intro⟩ ⟨⟨_, rfl, .refl _⟩, True.intro⟩ rfl⟩
    intro v1 h
    unfold slices_Compact_int_int_J1 at h
    refine Ok.seq ?_
    refine Ok.region Try.tok ?_
    refine Ok.wk (Wk.tab (L := [(2, (.o 1000))]) (H' := [(1000, .own 3 1 (List.map Go.Cat.encI p_h0))]) ⟨Le.refl _, True.intro⟩ ⟨⟨_, rfl, .refl _⟩, True.intro⟩ rfl) ?_
    refine Ok.ret ?_
    cases h
    exact (Wk.mv (i := 1000) (d := 999) rfl rfl rfl).trans (Wk.tab ⟨Le.refl _, True.intro⟩ ⟨⟨_, rfl, .refl _⟩, True.intro⟩ rfl)

theorem wo_lease_once_int [Off] {p_l : List Int} {r : (List Int)} (h : lease_once_int p_l = some r) : POwn Try.prog 37 [(.s (List.map Go.Cat.encI p_l))] 3 1 (List.map Go.Cat.encI r) := by
  refine pown_of_ok (n := 9) (c := (Try.f37.body.getD .skip)) Try.tok Try.func37 (by kernel_rfl) rfl rfl (Nat.le_of_ble_eq_true rfl) ?_
  unfold lease_once_int at h
  refine Ok.wk (Wk.tab (L := [(0, (.s (List.map Go.Cat.encI p_l)))]) (H' := []) ⟨Le.refl _, True.intro⟩ True.intro rfl) ?_
  refine Ok.seq ?_
  refine Ok.region Try.tok ?_
  refine Ok.wk (Wk.tab (L := [(0, (.s (List.map Go.Cat.encI p_l)))]) (H' := []) ⟨Le.refl _, True.intro⟩ True.intro rfl) ?_
  refine Ok.seq ?_
  refine Ok.region Try.tok ?_
  obtain ⟨x1, hx1, h⟩ := bindS h
  refine CallOk.gen (m := []) (n := [(1, 999)]) (wg_slices_Values_int_int hx1) (.cons (Ln.imm rfl) (.nil)) True.intro rfl rfl rfl ?_
  obtain ⟨hc1, h⟩ := chk_some h
  obtain ⟨x2, hx2, h⟩ := bindS h
  refine CallOk.sortedVals (D := 999) (D2 := 6) Try.sortedV57_68 Try.enters57 rfl hc1 (Option.some.inj hx2) rfl ?_
  refine Ok.wk (Wk.tab (L := [(3, (.o 6))]) (H' := [(6, .own 3 1 (List.map Go.Cat.encI x2))]) ⟨Le.refl _, True.intro⟩ ⟨⟨_, rfl, .refl _⟩, True.intro⟩ rfl) ?_
  refine Ok.seq ?_
  refine Ok.region Try.tok ?_
  obtain ⟨x3, hx3, h⟩ := bindS h
  refine CallOk.gen (m := [(1000, 6)]) (n := [(999, 6)]) (wg_slices_Compact_int_int hx3) (.cons (Ln.o rfl) (.nil)) ⟨⟨6, _, rfl, rfl, .refl rfl⟩, True.intro⟩ rfl rfl rfl ?_
  refine Ok.wk (Wk.tab (L := [(2, (.o 6))]) (H' := [(6, .own 3 1 (List.map Go.Cat.encI x3))]) ⟨Le.refl _, True.intro⟩ ⟨⟨_, rfl, .refl _⟩, True.intro⟩ rfl) ?_
  refine Ok.ret ?_
  cases h
  exact (.inr ⟨_, rfl, rfl⟩)
theorem w_lease_once_int [Off] {p_l : List Int} {r : (List Int)} (h : lease_once_int p_l = some r) : Pure Try.prog 37 [(.s (List.map Go.Cat.encI p_l))] (.s (List.map Go.Cat.encI r)) := (wo_lease_once_int h).pure

theorem w_lease_Ask_2 {p_x : api_Lease} {p_a1_0 : Int} {p_a1_1 : Int} {p_a1_2 : Int} {p_a1_3 : Int} {p_a1_4 : Int} {p_a1_5 : Int} {p_a1_6 : Int} {r : Bool} (h : lease_Ask_2 p_x p_a1_0 p_a1_1 p_a1_2 p_a1_3 p_a1_4 p_a1_5 p_a1_6 = some r) : Pure Try.prog 38 [(.a [(vi p_x.Client), (vi p_x.Ino), (vi p_x.Kind), (vi p_x.Span.From), (vi p_x.Span.To), (vi p_x.Until), (vi p_x.Epoch)]), (.p [(vi p_a1_0), (vi p_a1_1), (vi p_a1_2), (vi p_a1_3), (vi p_a1_4), (vi p_a1_5), (vi p_a1_6)])] (vb r) := by
  refine pure_of_ok (n := 30) (c := (Try.f38.body.getD .skip)) Try.tok Try.func38 (by kernel_rfl) rfl rfl (Nat.le_of_ble_eq_true rfl) ?_
  unfold lease_Ask_2 at h
  refine Ok.wk (Wk.tab (L := [(0, (.a [(vi p_x.Client), (vi p_x.Ino), (vi p_x.Kind), (vi p_x.Span.From), (vi p_x.Span.To), (vi p_x.Until), (vi p_x.Epoch)])), (1, (.p [(vi p_a1_0), (vi p_a1_1), (vi p_a1_2), (vi p_a1_3), (vi p_a1_4), (vi p_a1_5), (vi p_a1_6)]))]) (H' := []) ⟨Le.refl _, Le.refl _, True.intro⟩ True.intro rfl) ?_
  refine Ok.seq ?_
  refine Ok.region Try.tok ?_
  refine Ok.wk (Wk.tab (L := [(1, (.p [(vi p_a1_0), (vi p_a1_1), (vi p_a1_2), (vi p_a1_3), (vi p_a1_4), (vi p_a1_5), (vi p_a1_6)])), (2, (.b 2 0))]) (H' := [(2, .box [(vi p_x.Client), (vi p_x.Ino), (vi p_x.Kind), (vi p_x.Span.From), (vi p_x.Span.To), (vi p_x.Until), (vi p_x.Epoch)])]) ⟨Le.refl _, Le.refl _, True.intro⟩ ⟨⟨_, rfl, .refl _⟩, True.intro⟩ rfl) ?_
  obtain ⟨v1, hv1, h⟩ := bindS h
  refine Ok.seqw ⟨Cat.tab [(3, (vb v1))], []⟩ ?_ ?_
  · refine Ok.region Try.tok ?_
    refine ⟨_, rfl, ⟨_, rfl, ?_⟩⟩
    obtain ⟨c1, hg1, hv1⟩ := bindS hv1
    refine Br.itf hg1 (fun hb hg1 => ?_) fun hb hg1 => ?_
    · cases hg1
      obtain ⟨c2, hg2, hv1⟩ := bindS hv1
      replace hg2 := iteT hg2
      cases hg2
      obtain ⟨c3, hg3, hv1⟩ := bindS hv1
      replace hg3 := iteT hg3
      cases hg3
      cases hv1
      exact Wk.tab ⟨Le.refl _, True.intro⟩ True.intro rfl
    · refine ⟨_, rfl, ⟨_, rfl, ?_⟩⟩
      cases hg1
      obtain ⟨c2, hg4, hv1⟩ := bindS hv1
      refine Br.itf hg4 (fun hb hg4 => ?_) fun hb hg4 => ?_
      · cases hg4
        obtain ⟨c3, hg5, hv1⟩ := bindS hv1
        replace hg5 := iteT hg5
        cases hg5
        cases hv1
        exact Wk.tab ⟨Le.refl _, True.intro⟩ True.intro rfl
      · refine ⟨_, rfl, ⟨_, rfl, ?_⟩⟩
        cases hg4
        obtain ⟨c3, hg6, hv1⟩ := bindS hv1
        refine Br.itf hg6 (fun hb hg6 => ?_) fun hb hg6 => ?_
        · cases hg6
          cases hv1
          exact Wk.tab ⟨Le.refl _, True.intro⟩ True.intro rfl
        · refine ⟨_, rfl, ⟨_, rfl, ⟨[.one (.int .i64), .one (.int .i64)], by kernel_rfl, ?_⟩⟩⟩
          cases hg6
          cases hv1
          exact Wk.tab ⟨Le.refl _, True.intro⟩ True.intro rfl
  refine Ok.ret ?_
  cases h
  exact Fz.v

theorem wo_lease_kept_api_Lease__lease_Ask_2 {p_l : List api_Lease} {p_so_c0 : api_Lease} {r : (List api_Lease)} (h : lease_kept_api_Lease__lease_Ask_2 p_l p_so_c0 = some r) : POwn Try.prog 35 [(.s (List.map c_api_Lease p_l)), (.c (.func 38) [] [(.p [(vi p_so_c0.Client), (vi p_so_c0.Ino), (vi p_so_c0.Kind), (vi p_so_c0.Span.From), (vi p_so_c0.Span.To), (vi p_so_c0.Until), (vi p_so_c0.Epoch)])])] 26 7 (List.map c_api_Lease r) := by
  refine pown_of_ok (n := 23) (c := (Try.f35.body.getD .skip)) Try.tok Try.func35 (by kernel_rfl) rfl rfl (Nat.le_of_ble_eq_true rfl) ?_
  unfold lease_kept_api_Lease__lease_Ask_2 at h
  refine Ok.wk (Wk.tab (L := [(0, (.s (List.map c_api_Lease p_l))), (1, (.c (.func 38) [] [(.p [(vi p_so_c0.Client), (vi p_so_c0.Ino), (vi p_so_c0.Kind), (vi p_so_c0.Span.From), (vi p_so_c0.Span.To), (vi p_so_c0.Until), (vi p_so_c0.Epoch)])]))]) (H' := []) ⟨Le.refl _, Le.refl _, True.intro⟩ True.intro rfl) ?_
  refine Ok.seq ?_
  refine Ok.region Try.tok ?_
  refine Ok.wk (Wk.tab (L := [(0, (.s (List.map c_api_Lease p_l))), (1, (.c (.func 38) [] [(.p [(vi p_so_c0.Client), (vi p_so_c0.Ino), (vi p_so_c0.Kind), (vi p_so_c0.Span.From), (vi p_so_c0.Span.To), (vi p_so_c0.Until), (vi p_so_c0.Epoch)])]))]) (H' := []) ⟨Le.refl _, Le.refl _, True.intro⟩ True.intro rfl) ?_
  refine Ok.seq ?_
  refine Ok.region Try.tok ?_
  refine Ok.wk (Wk.tab (L := [(0, (.s (List.map c_api_Lease p_l))), (1, (.c (.func 38) [] [(.p [(vi p_so_c0.Client), (vi p_so_c0.Ino), (vi p_so_c0.Kind), (vi p_so_c0.Span.From), (vi p_so_c0.Span.To), (vi p_so_c0.Until), (vi p_so_c0.Epoch)])])), (5, (.v (.slice none 0 0)))]) (H' := []) ⟨Le.refl _, Le.refl _, Le.refl _, True.intro⟩ True.intro rfl) ?_
  obtain ⟨v1, hv1, h⟩ := bindS h
  refine Ok.seqw ⟨Cat.tab [(5, (.o 20))], [(20, .own 26 7 (List.map c_api_Lease v1))]⟩ ?_ ?_
  · refine Ok.seq ?_
    refine Ok.region Try.tok ?_
    refine ⟨_, List.length_map _, fun _ => ?_⟩
    refine Ok.wk (Wk.tab (L := [(1, (.c (.func 38) [] [(.p [(vi p_so_c0.Client), (vi p_so_c0.Ino), (vi p_so_c0.Kind), (vi p_so_c0.Span.From), (vi p_so_c0.Span.To), (vi p_so_c0.Until), (vi p_so_c0.Epoch)])])), (5, (.v (.slice none 0 0))), (8, (.s (List.map c_api_Lease p_l))), (9, (vi ((p_l.length : Int)))), (10, (vi (0)))]) (H' := []) ⟨Le.refl _, Le.refl _, Le.refl _, Le.refl _, Le.refl _, True.intro⟩ True.intro rfl) ?_
    refine Ok.block ?_
    refine Ok.loop (fun (s1 : Int × (List api_Lease)) => ⟨Cat.tab [(1, (.c (.func 38) [] [(.p [(vi p_so_c0.Client), (vi p_so_c0.Ino), (vi p_so_c0.Kind), (vi p_so_c0.Span.From), (vi p_so_c0.Span.To), (vi p_so_c0.Until), (vi p_so_c0.Epoch)])])), (5, (.o 20)), (8, (.s (List.map c_api_Lease p_l))), (9, (vi ((p_l.length : Int)))), (10, (vi s1.1))], [(20, .own 26 7 (List.map c_api_Lease s1.2))]⟩) (lease_kept_api_Lease__lease_Ask_2_B1 p_l p_so_c0) (s0 := (0, [])) hv1 ((Wk.own0 (t := 5) (id := 20) (E := 26) (K := 7) rfl rfl).trans (Wk.tab ⟨Le.refl _, Le.refl _, Le.refl _, Le.refl _, Le.refl _, True.intro⟩ ⟨⟨_, rfl, .refl _⟩, True.intro⟩ rfl)) ?_
    intro s1 y1 hB1 hy1
    unfold lease_kept_api_Lease__lease_Ask_2_B1 at hB1
    refine Ok.seq ?_
    refine Ok.region Try.tok ?_
    refine Ok.wk (Wk.tab (L := [(1, (.c (.func 38) [] [(.p [(vi p_so_c0.Client), (vi p_so_c0.Ino), (vi p_so_c0.Kind), (vi p_so_c0.Span.From), (vi p_so_c0.Span.To), (vi p_so_c0.Until), (vi p_so_c0.Epoch)])])), (5, (.o 20)), (8, (.s (List.map c_api_Lease p_l))), (9, (vi ((p_l.length : Int)))), (10, (vi s1.1)), (11, (vb ((decide (s1.1 < (p_l.length : Int))))))]) (H' := [(20, .own 26 7 (List.map c_api_Lease s1.2))]) ⟨Le.refl _, Le.refl _, Le.refl _, Le.refl _, Le.refl _, Le.refl _, True.intro⟩ ⟨⟨_, rfl, .refl _⟩, True.intro⟩ rfl) ?_
    refine Ok.seq ?_
    refine Ok.cond (d := 11) (b := (decide (s1.1 < (p_l.length : Int)))) rfl hB1 (fun hb hB1 => ?_) fun hb hB1 => ?_
    · refine Ok.skip ?_
      obtain ⟨v2, hv2, hB1⟩ := bindS hB1
      refine Ok.seqw ⟨Cat.tab [(1, (.c (.func 38) [] [(.p [(vi p_so_c0.Client), (vi p_so_c0.Ino), (vi p_so_c0.Kind), (vi p_so_c0.Span.From), (vi p_so_c0.Span.To), (vi p_so_c0.Until), (vi p_so_c0.Epoch)])])), (5, (.o 20)), (8, (.s (List.map c_api_Lease p_l))), (9, (vi ((p_l.length : Int)))), (10, (vi s1.1))], [(20, .own 26 7 (List.map c_api_Lease v2))]⟩ ?_ ?_
      · refine Ok.block ?_
        refine Ok.seq ?_
        refine Ok.region Try.tok ?_
        obtain ⟨x1, hx1, hv2⟩ := bindS hv2
        refine ⟨_, idx_nat hx1, _, idx_row hx1, ⟨_, rfl, ⟨_, rfl, ?_⟩⟩⟩
        refine Ok.wk (Wk.tab (L := [(1, (.c (.func 38) [] [(.p [(vi p_so_c0.Client), (vi p_so_c0.Ino), (vi p_so_c0.Kind), (vi p_so_c0.Span.From), (vi p_so_c0.Span.To), (vi p_so_c0.Until), (vi p_so_c0.Epoch)])])), (5, (.o 20)), (7, (.b 7 0)), (8, (.s (List.map c_api_Lease p_l))), (9, (vi ((p_l.length : Int)))), (10, (vi s1.1))]) (H' := [(20, .own 26 7 (List.map c_api_Lease s1.2)), (7, .box [(vi x1.Client), (vi x1.Ino), (vi x1.Kind), (vi x1.Span.From), (vi x1.Span.To), (vi x1.Until), (vi x1.Epoch)])]) ⟨Le.refl _, Le.refl _, Le.refl _, Le.refl _, Le.refl _, Le.refl _, True.intro⟩ ⟨⟨_, rfl, .refl _⟩, ⟨_, rfl, .refl _⟩, True.intro⟩ rfl) ?_
        refine Ok.seq ?_
        refine Ok.region Try.tok ?_
        obtain ⟨x2, hx2, hv2⟩ := bindS hv2
        refine ⟨_, rfl, ?_⟩
        refine CallOk.call (w_lease_Ask_2 hx2) (LeL.refl _) ?_
        refine Ok.wk (Wk.tab (L := [(1, (.c (.func 38) [] [(.p [(vi p_so_c0.Client), (vi p_so_c0.Ino), (vi p_so_c0.Kind), (vi p_so_c0.Span.From), (vi p_so_c0.Span.To), (vi p_so_c0.Until), (vi p_so_c0.Epoch)])])), (5, (.o 20)), (7, (.b 7 0)), (8, (.s (List.map c_api_Lease p_l))), (9, (vi ((p_l.length : Int)))), (10, (vi s1.1)), (16, (vb x2))]) (H' := [(20, .own 26 7 (List.map c_api_Lease s1.2)), (7, .box [(vi x1.Client), (vi x1.Ino), (vi x1.Kind), (vi x1.Span.From), (vi x1.Span.To), (vi x1.Until), (vi x1.Epoch)])]) ⟨Le.refl _, Le.refl _, Le.refl _, Le.refl _, Le.refl _, Le.refl _, Le.refl _, True.intro⟩ ⟨⟨_, rfl, .refl _⟩, ⟨_, rfl, .refl _⟩, True.intro⟩ rfl) ?_
        refine Ok.cond (d := 16) (b := x2) rfl hv2 (fun hb hv2 => ?_) fun hb hv2 => ?_
        · refine Ok.region Try.tok ?_
          obtain ⟨hc1, hv2⟩ := chk_some hv2
          refine ⟨_, rfl, Or.inl ⟨rowsLen_map (f := c_api_Lease) (n := 7) (fun _ => rfl) ([x1]), app_b2 (f := c_api_Lease) (l := s1.2) (l' := ([x1])) hc1, _, (List.map_append (f := c_api_Lease) (l₁ := s1.2) (l₂ := ([x1]))).symm, ?_⟩⟩
          cases hv2
          exact Wk.tab ⟨Le.refl _, Le.refl _, Le.refl _, Le.refl _, Le.refl _, True.intro⟩ ⟨⟨_, rfl, .refl _⟩, True.intro⟩ rfl
        · refine Ok.skip ?_
          cases hv2
          exact Wk.tab ⟨Le.refl _, Le.refl _, Le.refl _, Le.refl _, Le.refl _, True.intro⟩ ⟨⟨_, rfl, .refl _⟩, True.intro⟩ rfl
      refine Ok.region Try.tok ?_
      obtain ⟨hc2, hB1⟩ := chk_some hB1
      refine (Or.inl ⟨hc2, ?_⟩)
      exact ⟨_, (Option.some.inj hB1).symm, Wk.tab ⟨Le.refl _, Le.refl _, Le.refl _, Le.refl _, Le.refl _, True.intro⟩ ⟨⟨_, rfl, .refl _⟩, True.intro⟩ rfl⟩
    · refine Ok.exit ?_
      have hB1 := out_ret hB1 hy1
      cases hB1
      exact Wk.tab ⟨Le.refl _, True.intro⟩ ⟨⟨_, rfl, .refl _⟩, True.intro⟩ rfl
  refine Ok.seq ?_
  refine Ok.region Try.tok ?_
  refine Ok.wk (Wk.tab (L := [(4, (.o 20))]) (H' := [(20, .own 26 7 (List.map c_api_Lease v1))]) ⟨Le.refl _, True.intro⟩ ⟨⟨_, rfl, .refl _⟩, True.intro⟩ rfl) ?_
  refine Ok.ret ?_
  cases h
  exact (.inr ⟨_, rfl, rfl⟩)
theorem w_lease_kept_api_Lease__lease_Ask_2 {p_l : List api_Lease} {p_so_c0 : api_Lease} {r : (List api_Lease)} (h : lease_kept_api_Lease__lease_Ask_2 p_l p_so_c0 = some r) : Pure Try.prog 35 [(.s (List.map c_api_Lease p_l)), (.c (.func 38) [] [(.p [(vi p_so_c0.Client), (vi p_so_c0.Ino), (vi p_so_c0.Kind), (vi p_so_c0.Span.From), (vi p_so_c0.Span.To), (vi p_so_c0.Until), (vi p_so_c0.Epoch)])])] (.s (List.map c_api_Lease r)) := (wo_lease_kept_api_Lease__lease_Ask_2 h).pure

theorem w_clock_within {p_n : Int} {p_from : Int} {p_to : Int} {r : Int} (h : clock_within p_n p_from p_to = some r) : Pure Try.prog 47 [(vi p_n), (vi p_from), (vi p_to)] (vi r) := by
  refine pure_of_ok (n := 12) (c := (Try.f47.body.getD .skip)) Try.tok Try.func47 (by kernel_rfl) rfl rfl (Nat.le_of_ble_eq_true rfl) ?_
  unfold clock_within at h
  refine Ok.wk (Wk.tab (L := [(0, (vi p_n)), (1, (vi p_from)), (2, (vi p_to))]) (H' := []) ⟨Le.refl _, Le.refl _, Le.refl _, True.intro⟩ True.intro rfl) ?_
  refine Ok.seq ?_
  refine Ok.region Try.tok ?_
  refine Ok.wk (Wk.tab (L := [(0, (vi p_n)), (1, (vi p_from)), (2, (vi p_to))]) (H' := []) ⟨Le.refl _, Le.refl _, Le.refl _, True.intro⟩ True.intro rfl) ?_
  refine Ok.seq ?_
  refine Ok.region Try.tok ?_
  refine ⟨_, rfl, ⟨_, rfl, ?_⟩⟩
  refine Ok.wk (Wk.tab (L := [(6, (vi ((min ((max p_n p_from)) p_to))))]) (H' := []) ⟨Le.refl _, True.intro⟩ True.intro rfl) ?_
  refine Ok.ret ?_
  cases h
  exact Fz.v

theorem w_clock_span_least {p_r : Int} {r : Int} (h : clock_span_least p_r = some r) : Pure Try.prog 50 [(vi p_r)] (vi r) := by
  refine pure_of_ok (n := 6) (c := (Try.f50.body.getD .skip)) Try.tok Try.func50 (by kernel_rfl) rfl rfl (Nat.le_of_ble_eq_true rfl) ?_
  unfold clock_span_least at h
  refine Ok.wk (Wk.tab (L := [(0, (vi p_r))]) (H' := []) ⟨Le.refl _, True.intro⟩ True.intro rfl) ?_
  refine Ok.seq ?_
  refine Ok.region Try.tok ?_
  refine Ok.wk (Wk.tab (L := [(0, (vi p_r))]) (H' := []) ⟨Le.refl _, True.intro⟩ True.intro rfl) ?_
  refine Ok.seq ?_
  refine Ok.region Try.tok ?_
  obtain ⟨hc1, h⟩ := chk_some h
  refine (Or.inl ⟨hc1, ⟨(by decide), _, rfl, ?_⟩⟩)
  refine Ok.wk (Wk.tab (L := [(2, (vi ((quoK .i64 ((p_r * 999)) (1000)))))]) (H' := []) ⟨Le.refl _, True.intro⟩ True.intro rfl) ?_
  refine Ok.ret ?_
  cases h
  exact Fz.v

theorem w_clock_Wait_1 {p_r : Int} {p_a1_0 : Int} {r : Bool} (h : clock_Wait_1 p_r p_a1_0 = some r) : Pure Try.prog 49 [(vi p_r), (.p [(vi p_a1_0)])] (vb r) := by
  refine pure_of_ok (n := 8) (c := (Try.f49.body.getD .skip)) Try.tok Try.func49 (by kernel_rfl) rfl rfl (Nat.le_of_ble_eq_true rfl) ?_
  unfold clock_Wait_1 at h
  refine Ok.wk (Wk.tab (L := [(0, (vi p_r)), (1, (.p [(vi p_a1_0)]))]) (H' := []) ⟨Le.refl _, Le.refl _, True.intro⟩ True.intro rfl) ?_
  refine Ok.seq ?_
  refine Ok.region Try.tok ?_
  refine Ok.wk (Wk.tab (L := [(0, (vi p_r)), (1, (.p [(vi p_a1_0)]))]) (H' := []) ⟨Le.refl _, Le.refl _, True.intro⟩ True.intro rfl) ?_
  refine Ok.seq ?_
  refine Ok.draw (m := 5) (MD := ⟨[]⟩) (CH := ⟨[]⟩) Try.tok Try.mixed (by kernel_rfl) ?_
  obtain ⟨x1, hx1, h⟩ := bindS h
  refine ⟨_, rfl, ⟨_, ⟨_, .of_pure (w_clock_span_least hx1) (LeL.refl _), rfl⟩, ⟨_, ⟨_, rfl, rfl⟩, ⟨_, rfl, ⟨_, rfl, ⟨True.intro, ?_⟩⟩⟩⟩⟩⟩
  refine Ok.wk (Wk.tab (L := [(3, (vb ((decide (x1 ≥ p_a1_0)))))]) (H' := []) ⟨Le.refl _, True.intro⟩ True.intro rfl) ?_
  refine Ok.ret ?_
  cases h
  exact Fz.v

theorem w_clock_first_clock_span__clock_Wait_1 {p_from : Int} {p_to : Int} {p_so_c0 : Int} {r : Int} (h : clock_first_clock_span__clock_Wait_1 p_from p_to p_so_c0 = some r) : Pure Try.prog 48 [(vi p_from), (vi p_to), (.c (.func 49) [] [(.p [(vi p_so_c0)])])] (vi r) := by
  refine pure_of_ok (n := 24) (c := (Try.f48.body.getD .skip)) Try.tok Try.func48 (by kernel_rfl) rfl rfl (Nat.le_of_ble_eq_true rfl) ?_
  unfold clock_first_clock_span__clock_Wait_1 at h
  refine Ok.wk (Wk.tab (L := [(0, (vi p_from)), (1, (vi p_to)), (2, (.c (.func 49) [] [(.p [(vi p_so_c0)])]))]) (H' := []) ⟨Le.refl _, Le.refl _, Le.refl _, True.intro⟩ True.intro rfl) ?_
  refine Ok.seq ?_
  refine Ok.region Try.tok ?_
  refine Ok.wk (Wk.tab (L := [(0, (vi p_from)), (1, (vi p_to)), (2, (.c (.func 49) [] [(.p [(vi p_so_c0)])]))]) (H' := []) ⟨Le.refl _, Le.refl _, Le.refl _, True.intro⟩ True.intro rfl) ?_
  obtain ⟨v1, hv1, h⟩ := bindS h
  refine Ok.seqw ⟨Cat.tab [(0, (vi v1))], []⟩ ?_ ?_
  · refine Ok.block ?_
    refine Ok.loop (fun (s1 : Int × Int) => ⟨Cat.tab [(0, (vi s1.1)), (1, (vi s1.2)), (2, (.c (.func 49) [] [(.p [(vi p_so_c0)])]))], []⟩) (clock_first_clock_span__clock_Wait_1_B1 p_so_c0) (s0 := (p_from, p_to)) hv1 (Wk.tab ⟨Le.refl _, Le.refl _, Le.refl _, True.intro⟩ True.intro rfl) ?_
    intro s1 y1 hB1 hy1
    unfold clock_first_clock_span__clock_Wait_1_B1 at hB1
    refine Ok.seq ?_
    refine Ok.seq ?_
    refine Ok.region Try.tok ?_
    refine Ok.wk (Wk.tab (L := [(0, (vi s1.1)), (1, (vi s1.2)), (2, (.c (.func 49) [] [(.p [(vi p_so_c0)])])), (10, (vb ((decide (s1.1 < s1.2)))))]) (H' := []) ⟨Le.refl _, Le.refl _, Le.refl _, Le.refl _, True.intro⟩ True.intro rfl) ?_
    refine Ok.cond (d := 10) (b := (decide (s1.1 < s1.2))) rfl hB1 (fun hb hB1 => ?_) fun hb hB1 => ?_
    · refine Ok.skip ?_
      refine Ok.block ?_
      refine Ok.seq ?_
      refine Ok.region Try.tok ?_
      obtain ⟨hc1, hB1⟩ := chk_some hB1
      obtain ⟨hc2, hB1⟩ := chk_some hB1
      refine (Or.inl ⟨hc1, ⟨(by decide), _, rfl, (Or.inl ⟨hc2, ?_⟩)⟩⟩)
      refine Ok.wk (Wk.tab (L := [(0, (vi s1.1)), (1, (vi s1.2)), (2, (.c (.func 49) [] [(.p [(vi p_so_c0)])])), (7, (vi ((s1.1 + (quoK .i64 ((s1.2 - s1.1)) (2))))))]) (H' := []) ⟨Le.refl _, Le.refl _, Le.refl _, Le.refl _, True.intro⟩ True.intro rfl) ?_
      refine Ok.seq ?_
      refine Ok.region Try.tok ?_
      obtain ⟨x1, hx1, hB1⟩ := bindS hB1
      refine CallOk.call (w_clock_Wait_1 hx1) (LeL.refl _) ?_
      refine Ok.wk (Wk.tab (L := [(0, (vi s1.1)), (1, (vi s1.2)), (2, (.c (.func 49) [] [(.p [(vi p_so_c0)])])), (7, (vi ((s1.1 + (quoK .i64 ((s1.2 - s1.1)) (2)))))), (19, (vb x1))]) (H' := []) ⟨Le.refl _, Le.refl _, Le.refl _, Le.refl _, Le.refl _, True.intro⟩ True.intro rfl) ?_
      refine Ok.cond (d := 19) (b := x1) rfl hB1 (fun hb hB1 => ?_) fun hb hB1 => ?_
      · refine Ok.region Try.tok ?_
        exact ⟨_, (Option.some.inj hB1).symm, Wk.tab ⟨Le.refl _, Le.refl _, Le.refl _, True.intro⟩ True.intro rfl⟩
      · refine Ok.region Try.tok ?_
        obtain ⟨hc3, hB1⟩ := chk_some hB1
        refine (Or.inl ⟨hc3, ?_⟩)
        exact ⟨_, (Option.some.inj hB1).symm, Wk.tab ⟨Le.refl _, Le.refl _, Le.refl _, True.intro⟩ True.intro rfl⟩
    · refine Ok.exit ?_
      have hB1 := out_ret hB1 hy1
      cases hB1
      exact Wk.tab ⟨Le.refl _, True.intro⟩ True.intro rfl
  refine Ok.seq ?_
  refine Ok.region Try.tok ?_
  refine Ok.wk (Wk.tab (L := [(6, (vi v1))]) (H' := []) ⟨Le.refl _, True.intro⟩ True.intro rfl) ?_
  refine Ok.ret ?_
  cases h
  exact Fz.v

theorem w_clock_span_most {p_r : Int} {r : Int} (h : clock_span_most p_r = some r) : Pure Try.prog 51 [(vi p_r)] (vi r) := by
  refine pure_of_ok (n := 8) (c := (Try.f51.body.getD .skip)) Try.tok Try.func51 (by kernel_rfl) rfl rfl (Nat.le_of_ble_eq_true rfl) ?_
  unfold clock_span_most at h
  refine Ok.wk (Wk.tab (L := [(0, (vi p_r))]) (H' := []) ⟨Le.refl _, True.intro⟩ True.intro rfl) ?_
  refine Ok.seq ?_
  refine Ok.region Try.tok ?_
  refine Ok.wk (Wk.tab (L := [(0, (vi p_r))]) (H' := []) ⟨Le.refl _, True.intro⟩ True.intro rfl) ?_
  refine Ok.seq ?_
  refine Ok.region Try.tok ?_
  obtain ⟨hc1, h⟩ := chk_some h
  obtain ⟨hc2, h⟩ := chk_some h
  obtain ⟨hc3, h⟩ := chk_some h
  refine (Or.inl ⟨hc1, (Or.inl ⟨hc2, (Or.inl ⟨hc3, ⟨(by decide), _, rfl, ?_⟩⟩)⟩)⟩)
  refine Ok.wk (Wk.tab (L := [(2, (vi ((quoK .i64 ((((p_r * 1001) + 1000) - 1)) (1000)))))]) (H' := []) ⟨Le.refl _, True.intro⟩ True.intro rfl) ?_
  refine Ok.ret ?_
  cases h
  exact Fz.v

theorem w_clock_Wait {p_n : Int} {r : Int} (h : clock_Wait p_n = some r) : Pure Try.prog 24 [(vi p_n)] (vi r) := by
  refine pure_of_ok (n := 14) (c := (Try.f24.body.getD .skip)) Try.tok Try.func24 (by kernel_rfl) rfl rfl (Nat.le_of_ble_eq_true rfl) ?_
  unfold clock_Wait at h
  refine Ok.wk (Wk.tab (L := [(0, (vi p_n))]) (H' := []) ⟨Le.refl _, True.intro⟩ True.intro rfl) ?_
  refine Ok.seq ?_
  refine Ok.region Try.tok ?_
  refine Ok.wk (Wk.tab (L := [(1, (.b 1 0))]) (H' := [(1, .box [(vi p_n)])]) ⟨Le.refl _, True.intro⟩ ⟨⟨_, rfl, .refl _⟩, True.intro⟩ rfl) ?_
  refine Ok.seq ?_
  refine Ok.region Try.tok ?_
  obtain ⟨x1, hx1, h⟩ := bindS h
  refine ⟨_, rfl, ?_⟩
  refine CallOk.call (w_clock_within hx1) (LeL.refl _) ?_
  refine ⟨_, rfl, ?_⟩
  refine Ok.wk (Wk.tab (L := [(1, (.b 1 0))]) (H' := [(1, .box [(vi x1)])]) ⟨Le.refl _, True.intro⟩ ⟨⟨_, rfl, .refl _⟩, True.intro⟩ rfl) ?_
  refine Ok.seq ?_
  refine Ok.region Try.tok ?_
  obtain ⟨x2, hx2, h⟩ := bindS h
  refine CallOk.borrow (w_clock_first_clock_span__clock_Wait_1 hx2) (.cons Fz.v (.cons Fz.v (.cons (Fz.c .nil (.cons (Fz.b rfl rfl) .nil)) (.nil)))) rfl ?_
  refine Ok.wk (Wk.tab (L := [(3, (vi x2))]) (H' := []) ⟨Le.refl _, True.intro⟩ True.intro rfl) ?_
  refine Ok.seq ?_
  refine Ok.seq ?_
  refine Ok.region Try.tok ?_
  refine Ok.wk (Wk.tab (L := [(3, (vi x2)), (9, (vb ((x2 == 0))))]) (H' := []) ⟨Le.refl _, Le.refl _, True.intro⟩ True.intro rfl) ?_
  refine Ok.cond (d := 9) (b := (x2 == 0)) rfl h (fun hb h => ?_) fun hb h => ?_
  · refine Ok.seq ?_
    refine Ok.region Try.tok ?_
    refine Ok.wk (Wk.tab (L := [(2, (vi (0)))]) (H' := []) ⟨Le.refl _, True.intro⟩ True.intro rfl) ?_
    refine Ok.ret ?_
    cases h
    exact Fz.v
  · refine Ok.skip ?_
    refine Ok.seq ?_
    refine Ok.region Try.tok ?_
    obtain ⟨hc1, h⟩ := chk_some h
    obtain ⟨x3, hx3, h⟩ := bindS h
    refine (Or.inl ⟨hc1, ?_⟩)
    refine CallOk.call (w_clock_span_most hx3) (LeL.refl _) ?_
    obtain ⟨hc2, h⟩ := chk_some h
    refine (Or.inl ⟨hc2, ?_⟩)
    refine Ok.wk (Wk.tab (L := [(2, (vi ((x3 + 1))))]) (H' := []) ⟨Le.refl _, True.intro⟩ True.intro rfl) ?_
    refine Ok.ret ?_
    cases h
    exact Fz.v

theorem w_lease_Ask [Off] {p_l : List api_Lease} {p_now : Int} {p_q : api_Lease} {p_many : Int} {r : (List api_Lease) × Bool × (List Int)} (h : lease_Ask p_l p_now p_q p_many = some r) : Pure Try.prog 13 [(.s (List.map c_api_Lease p_l)), (vi p_now), (.a [(vi p_q.Client), (vi p_q.Ino), (vi p_q.Kind), (vi p_q.Span.From), (vi p_q.Span.To), (vi p_q.Until), (vi p_q.Epoch)]), (vi p_many)] (.t [(.s (List.map c_api_Lease r.1)), (vb r.2.1), (.s (List.map Go.Cat.encI r.2.2))]) := by
  refine pure_of_ok (n := 67) (c := (Try.f13.body.getD .skip)) Try.tok Try.func13 (by kernel_rfl) rfl rfl (Nat.le_of_ble_eq_true rfl) ?_
  unfold lease_Ask at h
  refine Ok.wk (Wk.tab (L := [(0, (.s (List.map c_api_Lease p_l))), (1, (vi p_now)), (2, (.a [(vi p_q.Client), (vi p_q.Ino), (vi p_q.Kind), (vi p_q.Span.From), (vi p_q.Span.To), (vi p_q.Until), (vi p_q.Epoch)])), (3, (vi p_many))]) (H' := []) ⟨Le.refl _, Le.refl _, Le.refl _, Le.refl _, True.intro⟩ True.intro rfl) ?_
  refine Ok.seq ?_
  refine Ok.region Try.tok ?_
  refine Ok.wk (Wk.tab (L := [(0, (.s (List.map c_api_Lease p_l))), (1, (vi p_now)), (3, (vi p_many)), (6, (.b 6 0))]) (H' := [(6, .box [(vi p_q.Client), (vi p_q.Ino), (vi p_q.Kind), (vi p_q.Span.From), (vi p_q.Span.To), (vi p_q.Until), (vi p_q.Epoch)])]) ⟨Le.refl _, Le.refl _, Le.refl _, Le.refl _, True.intro⟩ ⟨⟨_, rfl, .refl _⟩, True.intro⟩ rfl) ?_
  refine Ok.seq ?_
  refine Ok.region Try.tok ?_
  refine ⟨_, rfl, ?_⟩
  refine Ok.wk (Wk.tab (L := [(0, (.s (List.map c_api_Lease p_l))), (1, (vi p_now)), (3, (vi p_many)), (6, (.b 6 0))]) (H' := [(6, .box [(vi p_q.Client), (vi p_q.Ino), (vi p_q.Kind), (vi p_q.Span.From), (vi p_q.Span.To), (vi (0)), (vi p_q.Epoch)])]) ⟨Le.refl _, Le.refl _, Le.refl _, Le.refl _, True.intro⟩ ⟨⟨_, rfl, .refl _⟩, True.intro⟩ rfl) ?_
  refine Ok.seq ?_
  obtain ⟨v1, hv1, h⟩ := bindS h
  refine Ok.seqw ⟨Cat.tab [(0, (.s (List.map c_api_Lease p_l))), (1, (vi p_now)), (3, (vi p_many)), (6, (.b 6 0)), (26, (vb v1))], [(6, .box [(vi p_q.Client), (vi p_q.Ino), (vi p_q.Kind), (vi p_q.Span.From), (vi p_q.Span.To), (vi (0)), (vi p_q.Epoch)])]⟩ ?_ ?_
  · refine Ok.region Try.tok ?_
    obtain ⟨x1, hx1, hv1⟩ := bindS hv1
    refine ⟨_, rfl, ?_⟩
    refine CallOk.call (w_lease_one hx1) (LeL.refl _) ?_
    obtain ⟨c1, hg1, hv1⟩ := bindS hv1
    refine Br.itf hg1 (fun hb hg1 => ?_) fun hb hg1 => ?_
    · cases hg1
      obtain ⟨c2, hg2, hv1⟩ := bindS hv1
      replace hg2 := iteT hg2
      cases hg2
      cases hv1
      exact Wk.tab ⟨Le.refl _, Le.refl _, Le.refl _, Le.refl _, Le.refl _, True.intro⟩ ⟨⟨_, rfl, .refl _⟩, True.intro⟩ rfl
    · cases hg1
      obtain ⟨c2, hg3, hv1⟩ := bindS hv1
      refine Br.itf hg3 (fun hb hg3 => ?_) fun hb hg3 => ?_
      · cases hg3
        cases hv1
        exact Wk.tab ⟨Le.refl _, Le.refl _, Le.refl _, Le.refl _, Le.refl _, True.intro⟩ ⟨⟨_, rfl, .refl _⟩, True.intro⟩ rfl
      · cases hg3
        cases hv1
        exact Wk.tab ⟨Le.refl _, Le.refl _, Le.refl _, Le.refl _, Le.refl _, True.intro⟩ ⟨⟨_, rfl, .refl _⟩, True.intro⟩ rfl
  refine Ok.cond (d := 26) (b := v1) rfl h (fun hb h => ?_) fun hb h => ?_
  · refine Ok.seq ?_
    refine Ok.region Try.tok ?_
    refine Ok.wk (Wk.tab (L := [(8, (.s (List.map c_api_Lease p_l))), (9, (vb false)), (10, (.v (.slice none 0 0)))]) (H' := []) ⟨Le.refl _, Le.refl _, Le.refl _, True.intro⟩ True.intro rfl) ?_
    refine Ok.ret ?_
    cases h
    exact (Fz.t (.cons Fz.s (.cons Fz.v (.cons Fz.nil .nil))))
  · refine Ok.skip ?_
    refine Ok.seq ?_
    refine Ok.region Try.tok ?_
    obtain ⟨x2, hx2, h⟩ := bindS h
    refine CallOk.call (w_lease_Over hx2) (LeL.refl _) ?_
    refine Ok.wk (Wk.tab (L := [(0, (.s (List.map c_api_Lease x2))), (1, (vi p_now)), (3, (vi p_many)), (6, (.b 6 0))]) (H' := [(6, .box [(vi p_q.Client), (vi p_q.Ino), (vi p_q.Kind), (vi p_q.Span.From), (vi p_q.Span.To), (vi (0)), (vi p_q.Epoch)])]) ⟨Le.refl _, Le.refl _, Le.refl _, Le.refl _, True.intro⟩ ⟨⟨_, rfl, .refl _⟩, True.intro⟩ rfl) ?_
    refine Ok.seq ?_
    refine Ok.region Try.tok ?_
    refine Ok.wk (Wk.tab (L := [(0, (.s (List.map c_api_Lease x2))), (1, (vi p_now)), (3, (vi p_many)), (6, (.b 6 0)), (11, (.v (.slice none 0 0)))]) (H' := [(6, .box [(vi p_q.Client), (vi p_q.Ino), (vi p_q.Kind), (vi p_q.Span.From), (vi p_q.Span.To), (vi (0)), (vi p_q.Epoch)])]) ⟨Le.refl _, Le.refl _, Le.refl _, Le.refl _, Le.refl _, True.intro⟩ ⟨⟨_, rfl, .refl _⟩, True.intro⟩ rfl) ?_
    obtain ⟨v2, hv2, h⟩ := bindS h
    refine Ok.seqw ⟨Cat.tab [(0, (.s (List.map c_api_Lease x2))), (1, (vi p_now)), (3, (vi p_many)), (6, (.b 6 0)), (11, (.o 43))], [(6, .box [(vi p_q.Client), (vi p_q.Ino), (vi p_q.Kind), (vi p_q.Span.From), (vi p_q.Span.To), (vi (0)), (vi p_q.Epoch)]), (43, .own 3 1 (List.map Go.Cat.encI v2))]⟩ ?_ ?_
    · refine Ok.seq ?_
      refine Ok.region Try.tok ?_
      obtain ⟨x3, hx3, hv2⟩ := bindS hv2
      refine CallOk.ownLend (D := 33) (wo_lease_kept_api_Lease__lease_Ask_1 hx3) (.cons Fz.s (.cons (Fz.c .nil (.cons (Fz.b rfl rfl) .nil)) (.nil))) (rowsPlain (f := c_api_Lease) (fun _ => rfl) _) rfl ?_
      refine ⟨_, List.length_map _, fun _ => ?_⟩
      refine Ok.wk (Wk.tab (L := [(0, (.s (List.map c_api_Lease x2))), (1, (vi p_now)), (3, (vi p_many)), (6, (.b 6 0)), (11, (.v (.slice none 0 0))), (33, (.o 33)), (34, (vi ((x3.length : Int)))), (35, (vi (0)))]) (H' := [(6, .box [(vi p_q.Client), (vi p_q.Ino), (vi p_q.Kind), (vi p_q.Span.From), (vi p_q.Span.To), (vi (0)), (vi p_q.Epoch)]), (33, .own 26 7 (List.map c_api_Lease x3))]) ⟨Le.refl _, Le.refl _, Le.refl _, Le.refl _, Le.refl _, Le.refl _, Le.refl _, Le.refl _, True.intro⟩ ⟨⟨_, rfl, .refl _⟩, ⟨_, rfl, .refl _⟩, True.intro⟩ rfl) ?_
      refine Ok.block ?_
      refine Ok.loop (fun (s1 : Int × (List Int)) => ⟨Cat.tab [(0, (.s (List.map c_api_Lease x2))), (1, (vi p_now)), (3, (vi p_many)), (6, (.b 6 0)), (11, (.o 43)), (33, (.o 33)), (34, (vi ((x3.length : Int)))), (35, (vi s1.1))], [(6, .box [(vi p_q.Client), (vi p_q.Ino), (vi p_q.Kind), (vi p_q.Span.From), (vi p_q.Span.To), (vi (0)), (vi p_q.Epoch)]), (43, .own 3 1 (List.map Go.Cat.encI s1.2)), (33, .own 26 7 (List.map c_api_Lease x3))]⟩) (lease_Ask_B1 x3) (s0 := (0, [])) hv2 ((Wk.own0 (t := 11) (id := 43) (E := 3) (K := 1) rfl rfl).trans (Wk.tab ⟨Le.refl _, Le.refl _, Le.refl _, Le.refl _, Le.refl _, Le.refl _, Le.refl _, Le.refl _, True.intro⟩ ⟨⟨_, rfl, .refl _⟩, ⟨_, rfl, .refl _⟩, ⟨_, rfl, .refl _⟩, True.intro⟩ rfl)) ?_
      intro s1 y1 hB1 hy1
      unfold lease_Ask_B1 at hB1
      refine Ok.seq ?_
      refine Ok.region Try.tok ?_
      refine Ok.wk (Wk.tab (L := [(0, (.s (List.map c_api_Lease x2))), (1, (vi p_now)), (3, (vi p_many)), (6, (.b 6 0)), (11, (.o 43)), (33, (.o 33)), (34, (vi ((x3.length : Int)))), (35, (vi s1.1)), (36, (vb ((decide (s1.1 < (x3.length : Int))))))]) (H' := [(6, .box [(vi p_q.Client), (vi p_q.Ino), (vi p_q.Kind), (vi p_q.Span.From), (vi p_q.Span.To), (vi (0)), (vi p_q.Epoch)]), (43, .own 3 1 (List.map Go.Cat.encI s1.2)), (33, .own 26 7 (List.map c_api_Lease x3))]) ⟨Le.refl _, Le.refl _, Le.refl _, Le.refl _, Le.refl _, Le.refl _, Le.refl _, Le.refl _, Le.refl _, True.intro⟩ ⟨⟨_, rfl, .refl _⟩, ⟨_, rfl, .refl _⟩, ⟨_, rfl, .refl _⟩, True.intro⟩ rfl) ?_
      refine Ok.seq ?_
      refine Ok.cond (d := 36) (b := (decide (s1.1 < (x3.length : Int)))) rfl hB1 (fun hb hB1 => ?_) fun hb hB1 => ?_
      · refine Ok.skip ?_
        refine Ok.seq ?_
        refine Ok.block ?_
        refine Ok.seq ?_
        refine Ok.region Try.tok ?_
        obtain ⟨x4, hx4, hB1⟩ := bindS hB1
        refine ⟨_, idx_nat hx4, idx_ltm hx4, ⟨_, idx_row hx4, rfl, _, rfl, ⟨_, rfl, ?_⟩⟩⟩
        refine Ok.wk (Wk.tab (L := [(0, (.s (List.map c_api_Lease x2))), (1, (vi p_now)), (3, (vi p_many)), (6, (.b 6 0)), (11, (.o 43)), (13, (.b 13 0)), (33, (.o 33)), (34, (vi ((x3.length : Int)))), (35, (vi s1.1))]) (H' := [(6, .box [(vi p_q.Client), (vi p_q.Ino), (vi p_q.Kind), (vi p_q.Span.From), (vi p_q.Span.To), (vi (0)), (vi p_q.Epoch)]), (43, .own 3 1 (List.map Go.Cat.encI s1.2)), (13, .box [(vi x4.Client), (vi x4.Ino), (vi x4.Kind), (vi x4.Span.From), (vi x4.Span.To), (vi x4.Until), (vi x4.Epoch)]), (33, .own 26 7 (List.map c_api_Lease x3))]) ⟨Le.refl _, Le.refl _, Le.refl _, Le.refl _, Le.refl _, Le.refl _, Le.refl _, Le.refl _, Le.refl _, True.intro⟩ ⟨⟨_, rfl, .refl _⟩, ⟨_, rfl, .refl _⟩, ⟨_, rfl, .refl _⟩, ⟨_, rfl, .refl _⟩, True.intro⟩ rfl) ?_
        refine Ok.region Try.tok ?_
        obtain ⟨hc1, hB1⟩ := chk_some hB1
        refine ⟨_, rfl, Or.inl ⟨rowsLen_map (f := Go.Cat.encI) (n := 1) (fun _ => rfl) ([x4.Client]), app_b2 (f := Go.Cat.encI) (l := s1.2) (l' := ([x4.Client])) hc1, _, (List.map_append (f := Go.Cat.encI) (l₁ := s1.2) (l₂ := ([x4.Client]))).symm, ?_⟩⟩
        refine Ok.wk (Wk.tab (L := [(0, (.s (List.map c_api_Lease x2))), (1, (vi p_now)), (3, (vi p_many)), (6, (.b 6 0)), (11, (.o 43)), (33, (.o 33)), (34, (vi ((x3.length : Int)))), (35, (vi s1.1))]) (H' := [(6, .box [(vi p_q.Client), (vi p_q.Ino), (vi p_q.Kind), (vi p_q.Span.From), (vi p_q.Span.To), (vi (0)), (vi p_q.Epoch)]), (43, .own 3 1 (List.map Go.Cat.encI ((s1.2 ++ [x4.Client])))), (33, .own 26 7 (List.map c_api_Lease x3))]) ⟨Le.refl _, Le.refl _, Le.refl _, Le.refl _, Le.refl _, Le.refl _, Le.refl _, Le.refl _, True.intro⟩ ⟨⟨_, rfl, .refl _⟩, ⟨_, rfl, .refl _⟩, ⟨_, rfl, .refl _⟩, True.intro⟩ rfl) ?_
        refine Ok.region Try.tok ?_
        obtain ⟨hc2, hB1⟩ := chk_some hB1
        refine (Or.inl ⟨hc2, ?_⟩)
        exact ⟨_, (Option.some.inj hB1).symm, Wk.tab ⟨Le.refl _, Le.refl _, Le.refl _, Le.refl _, Le.refl _, Le.refl _, Le.refl _, Le.refl _, True.intro⟩ ⟨⟨_, rfl, .refl _⟩, ⟨_, rfl, .refl _⟩, ⟨_, rfl, .refl _⟩, True.intro⟩ rfl⟩
      · refine Ok.exit ?_
        have hB1 := out_ret hB1 hy1
        cases hB1
        exact Wk.tab ⟨Le.refl _, Le.refl _, Le.refl _, Le.refl _, Le.refl _, True.intro⟩ ⟨⟨_, rfl, .refl _⟩, ⟨_, rfl, .refl _⟩, True.intro⟩ rfl
    refine Ok.seq ?_
    refine Ok.seq ?_
    refine Ok.region Try.tok ?_
    refine ⟨_, List.length_map _, fun _ => ?_⟩
    refine Ok.wk (Wk.tab (L := [(0, (.s (List.map c_api_Lease x2))), (1, (vi p_now)), (3, (vi p_many)), (6, (.b 6 0)), (11, (.o 43)), (47, (vb ((decide ((v2.length : Int) > 0)))))]) (H' := [(6, .box [(vi p_q.Client), (vi p_q.Ino), (vi p_q.Kind), (vi p_q.Span.From), (vi p_q.Span.To), (vi (0)), (vi p_q.Epoch)]), (43, .own 3 1 (List.map Go.Cat.encI v2))]) ⟨Le.refl _, Le.refl _, Le.refl _, Le.refl _, Le.refl _, Le.refl _, True.intro⟩ ⟨⟨_, rfl, .refl _⟩, ⟨_, rfl, .refl _⟩, True.intro⟩ rfl) ?_
    refine Ok.cond (d := 47) (b := (decide ((v2.length : Int) > 0))) rfl h (fun hb h => ?_) fun hb h => ?_
    · refine Ok.seq ?_
      refine Ok.region Try.tok ?_
      obtain ⟨x5, hx5, h⟩ := bindS h
      refine CallOk.freeze (id := 43) rfl (CallOk.call (w_lease_once_int hx5) (LeL.refl _) ?_)
      refine Ok.wk (Wk.tab (L := [(8, (.s (List.map c_api_Lease x2))), (9, (vb false)), (10, (.s (List.map Go.Cat.encI x5)))]) (H' := []) ⟨Le.refl _, Le.refl _, Le.refl _, True.intro⟩ True.intro rfl) ?_
      refine Ok.ret ?_
      cases h
      exact (Fz.t (.cons Fz.s (.cons Fz.v (.cons Fz.s .nil))))
    · refine Ok.skip ?_
      refine Ok.seq ?_
      refine Ok.region Try.tok ?_
      obtain ⟨x6, hx6, h⟩ := bindS h
      refine CallOk.ownLend (D := 53) (wo_lease_kept_api_Lease__lease_Ask_2 hx6) (.cons Fz.s (.cons (Fz.c .nil (.cons (Fz.b rfl rfl) .nil)) (.nil))) (rowsPlain (f := c_api_Lease) (fun _ => rfl) _) rfl ?_
      refine Ok.wk (Wk.tab (L := [(0, (.s (List.map c_api_Lease x2))), (1, (vi p_now)), (3, (vi p_many)), (6, (.b 6 0)), (14, (.o 53))]) (H' := [(6, .box [(vi p_q.Client), (vi p_q.Ino), (vi p_q.Kind), (vi p_q.Span.From), (vi p_q.Span.To), (vi (0)), (vi p_q.Epoch)]), (53, .own 26 7 (List.map c_api_Lease x6))]) ⟨Le.refl _, Le.refl _, Le.refl _, Le.refl _, Le.refl _, True.intro⟩ ⟨⟨_, rfl, .refl _⟩, ⟨_, rfl, .refl _⟩, True.intro⟩ rfl) ?_
      refine Ok.seq ?_
      refine Ok.seq ?_
      refine Ok.region Try.tok ?_
      refine ⟨_, List.length_map _, fun _ => ?_⟩
      refine Ok.wk (Wk.tab (L := [(0, (.s (List.map c_api_Lease x2))), (1, (vi p_now)), (3, (vi p_many)), (6, (.b 6 0)), (14, (.o 53)), (56, (vb ((decide ((x6.length : Int) ≥ 64)))))]) (H' := [(6, .box [(vi p_q.Client), (vi p_q.Ino), (vi p_q.Kind), (vi p_q.Span.From), (vi p_q.Span.To), (vi (0)), (vi p_q.Epoch)]), (53, .own 26 7 (List.map c_api_Lease x6))]) ⟨Le.refl _, Le.refl _, Le.refl _, Le.refl _, Le.refl _, Le.refl _, True.intro⟩ ⟨⟨_, rfl, .refl _⟩, ⟨_, rfl, .refl _⟩, True.intro⟩ rfl) ?_
      refine Ok.cond (d := 56) (b := (decide ((x6.length : Int) ≥ 64))) rfl h (fun hb h => ?_) fun hb h => ?_
      · refine Ok.seq ?_
        refine Ok.region Try.tok ?_
        refine Ok.wk (Wk.tab (L := [(8, (.s (List.map c_api_Lease x2))), (9, (vb false)), (10, (.v (.slice none 0 0)))]) (H' := []) ⟨Le.refl _, Le.refl _, Le.refl _, True.intro⟩ True.intro rfl) ?_
        refine Ok.ret ?_
        cases h
        exact (Fz.t (.cons Fz.s (.cons Fz.v (.cons Fz.nil .nil))))
      · refine Ok.skip ?_
        refine Ok.seq ?_
        refine Ok.region Try.tok ?_
        obtain ⟨x7, hx7, h⟩ := bindS h
        refine CallOk.call (w_clock_Wait hx7) (LeL.refl _) ?_
        obtain ⟨hc3, h⟩ := chk_some h
        refine (Or.inl ⟨hc3, ⟨_, rfl, ?_⟩⟩)
        refine Ok.wk (Wk.tab (L := [(6, (.b 6 0)), (14, (.o 53))]) (H' := [(6, .box [(vi p_q.Client), (vi p_q.Ino), (vi p_q.Kind), (vi p_q.Span.From), (vi p_q.Span.To), (vi ((p_now + x7))), (vi p_q.Epoch)]), (53, .own 26 7 (List.map c_api_Lease x6))]) ⟨Le.refl _, Le.refl _, True.intro⟩ ⟨⟨_, rfl, .refl _⟩, ⟨_, rfl, .refl _⟩, True.intro⟩ rfl) ?_
        refine Ok.seq ?_
        refine Ok.region Try.tok ?_
        obtain ⟨hc4, h⟩ := chk_some h
        refine ⟨_, rfl, Or.inl ⟨rowsLen_map (f := c_api_Lease) (n := 7) (fun _ => rfl) ([(⟨p_q.Client, p_q.Ino, p_q.Kind, p_q.Span, (p_now + x7), p_q.Epoch⟩ : api_Lease)]), app_b2 (f := c_api_Lease) (l := x6) (l' := ([(⟨p_q.Client, p_q.Ino, p_q.Kind, p_q.Span, (p_now + x7), p_q.Epoch⟩ : api_Lease)])) hc4, _, (List.map_append (f := c_api_Lease) (l₁ := x6) (l₂ := ([(⟨p_q.Client, p_q.Ino, p_q.Kind, p_q.Span, (p_now + x7), p_q.Epoch⟩ : api_Lease)]))).symm, ?_⟩⟩
        refine Ok.wk (Wk.tab (L := [(8, (.o 53)), (9, (vb true)), (10, (.v (.slice none 0 0)))]) (H' := [(53, .own 26 7 (List.map c_api_Lease ((x6 ++ [(⟨p_q.Client, p_q.Ino, p_q.Kind, p_q.Span, (p_now + x7), p_q.Epoch⟩ : api_Lease)]))))]) ⟨Le.refl _, Le.refl _, Le.refl _, True.intro⟩ ⟨⟨_, rfl, .refl _⟩, True.intro⟩ rfl) ?_
        refine Ok.ret ?_
        cases h
        exact (Fz.t (.cons (Fz.o rfl) (.cons Fz.v (.cons Fz.nil .nil))))

theorem w_ref14_Ints {p_a : List Int} {p_b : List Int} {r : Bool} (h : ref14_Ints p_a p_b = some r) : Pure Try.prog 16 [(.s (List.map Go.Cat.encI p_a)), (.s (List.map Go.Cat.encI p_b))] (vb r) := by
  refine pure_of_ok (n := 26) (c := (Try.f16.body.getD .skip)) Try.tok Try.func16 (by kernel_rfl) rfl rfl (Nat.le_of_ble_eq_true rfl) ?_
  unfold ref14_Ints at h
  refine Ok.wk (Wk.tab (L := [(0, (.s (List.map Go.Cat.encI p_a))), (1, (.s (List.map Go.Cat.encI p_b)))]) (H' := []) ⟨Le.refl _, Le.refl _, True.intro⟩ True.intro rfl) ?_
  refine Ok.seq ?_
  refine Ok.region Try.tok ?_
  refine Ok.wk (Wk.tab (L := [(0, (.s (List.map Go.Cat.encI p_a))), (1, (.s (List.map Go.Cat.encI p_b)))]) (H' := []) ⟨Le.refl _, Le.refl _, True.intro⟩ True.intro rfl) ?_
  refine Ok.seq ?_
  refine Ok.seq ?_
  refine Ok.region Try.tok ?_
  refine ⟨_, List.length_map _, fun _ => ⟨_, List.length_map _, fun _ => ?_⟩⟩
  refine Ok.wk (Wk.tab (L := [(0, (.s (List.map Go.Cat.encI p_a))), (1, (.s (List.map Go.Cat.encI p_b))), (10, (vb (((p_a.length : Int) != (p_b.length : Int)))))]) (H' := []) ⟨Le.refl _, Le.refl _, Le.refl _, True.intro⟩ True.intro rfl) ?_
  refine Ok.cond (d := 10) (b := ((p_a.length : Int) != (p_b.length : Int))) rfl h (fun hb h => ?_) fun hb h => ?_
  · refine Ok.seq ?_
    refine Ok.region Try.tok ?_
    refine Ok.wk (Wk.tab (L := [(4, (vb false))]) (H' := []) ⟨Le.refl _, True.intro⟩ True.intro rfl) ?_
    refine Ok.ret ?_
    cases h
    exact Fz.v
  · refine Ok.skip ?_
    refine Ok.seqj (fun v1 => ⟨Cat.tab [], []⟩) (fun v1 => ref14_Ints_J1 v1 = some r) ?_ ?_
    · refine Ok.seq ?_
      refine Ok.region Try.tok ?_
      refine Ok.wk (Wk.tab (L := [(0, (.s (List.map Go.Cat.encI p_a))), (1, (.s (List.map Go.Cat.encI p_b))), (5, (vi (0)))]) (H' := []) ⟨Le.refl _, Le.refl _, Le.refl _, True.intro⟩ True.intro rfl) ?_
      refine Ok.block ?_
      refine Ok.loop (fun (s1 : Int) => ⟨Cat.tab [(0, (.s (List.map Go.Cat.encI p_a))), (1, (.s (List.map Go.Cat.encI p_b))), (5, (vi s1))], []⟩) (ref14_Ints_B1 p_a p_b) (s0 := 0) h (Wk.tab ⟨Le.refl _, Le.refl _, Le.refl _, True.intro⟩ True.intro rfl) ?_
      intro s1 y1 hB1 hy1
      unfold ref14_Ints_B1 at hB1
      refine Ok.seq ?_
      refine Ok.seq ?_
      refine Ok.region Try.tok ?_
      refine ⟨_, List.length_map _, fun _ => ?_⟩
      refine Ok.wk (Wk.tab (L := [(0, (.s (List.map Go.Cat.encI p_a))), (1, (.s (List.map Go.Cat.encI p_b))), (5, (vi s1)), (14, (vb ((decide (s1 < (p_a.length : Int))))))]) (H' := []) ⟨Le.refl _, Le.refl _, Le.refl _, Le.refl _, True.intro⟩ True.intro rfl) ?_
      refine Ok.cond (d := 14) (b := (decide (s1 < (p_a.length : Int)))) rfl hB1 (fun hb hB1 => ?_) fun hb hB1 => ?_
      · refine Ok.skip ?_
        refine Ok.seq ?_
        refine Ok.block ?_
        refine Ok.seq ?_
        refine Ok.draw (m := 9) (MD := ⟨[]⟩) (CH := ⟨[]⟩) Try.tok Try.mixed (by kernel_rfl) ?_
        obtain ⟨x1, hx1, hB1⟩ := bindS hB1
        obtain ⟨x2, hx2, hB1⟩ := bindS hB1
        refine ⟨_, rfl, ⟨_, rfl, ⟨_, ⟨_, idx_nat hx1, _, idx_row hx1, rfl⟩, ⟨_, ⟨_, rfl, rfl⟩, ⟨_, rfl, ⟨_, rfl, ⟨_, ⟨_, idx_nat hx2, _, idx_row hx2, rfl⟩, ⟨_, ⟨_, rfl, rfl⟩, ⟨_, rfl, ⟨True.intro, ?_⟩⟩⟩⟩⟩⟩⟩⟩⟩⟩
        refine Ok.wk (Wk.tab (L := [(0, (.s (List.map Go.Cat.encI p_a))), (1, (.s (List.map Go.Cat.encI p_b))), (5, (vi s1)), (25, (vb ((x1 != x2))))]) (H' := []) ⟨Le.refl _, Le.refl _, Le.refl _, Le.refl _, True.intro⟩ True.intro rfl) ?_
        refine Ok.cond (d := 25) (b := (x1 != x2)) rfl hB1 (fun hb hB1 => ?_) fun hb hB1 => ?_
        · refine Ok.seq ?_
          refine Ok.region Try.tok ?_
          refine Ok.wk (Wk.tab (L := [(4, (vb false))]) (H' := []) ⟨Le.refl _, True.intro⟩ True.intro rfl) ?_
          refine Ok.ret ?_
          have hB1 := out_ret hB1 hy1
          cases hB1
          exact Fz.v
        · refine Ok.skip ?_
          refine Ok.region Try.tok ?_
          obtain ⟨hc1, hB1⟩ := chk_some hB1
          refine (Or.inl ⟨hc1, ?_⟩)
          exact ⟨_, (Option.some.inj hB1).symm, Wk.tab ⟨Le.refl _, Le.refl _, Le.refl _, True.intro⟩ True.intro rfl⟩
      · refine Ok.exit ?_
        have hB1 := out_ret hB1 hy1
        exact ⟨_, hB1, Wk.tab True.intro True.intro rfl⟩
    intro v1 h
    unfold ref14_Ints_J1 at h
    refine Ok.seq ?_
    refine Ok.region Try.tok ?_
    refine Ok.wk (Wk.tab (L := [(4, (vb true))]) (H' := []) ⟨Le.refl _, True.intro⟩ True.intro rfl) ?_
    refine Ok.ret ?_
    cases h
    exact Fz.v

theorem wo_span_edges {p_l : List api_Span} {p_set : Int} {r : (List span_edge)} (h : span_edges p_l p_set = some r) : POwn Try.prog 70 [(.s (List.map c_api_Span p_l)), (vi p_set)] 87 3 (List.map c_span_edge r) := by
  refine pown_of_ok (n := 36) (c := (Try.f70.body.getD .skip)) Try.tok Try.func70 (by kernel_rfl) rfl rfl (Nat.le_of_ble_eq_true rfl) ?_
  unfold span_edges at h
  refine Ok.wk (Wk.tab (L := [(0, (.s (List.map c_api_Span p_l))), (1, (vi p_set))]) (H' := []) ⟨Le.refl _, Le.refl _, True.intro⟩ True.intro rfl) ?_
  refine Ok.seq ?_
  refine Ok.region Try.tok ?_
  refine Ok.wk (Wk.tab (L := [(0, (.s (List.map c_api_Span p_l))), (1, (vi p_set))]) (H' := []) ⟨Le.refl _, Le.refl _, True.intro⟩ True.intro rfl) ?_
  refine Ok.seq ?_
  refine Ok.region Try.tok ?_
  refine Ok.wk (Wk.tab (L := [(0, (.s (List.map c_api_Span p_l))), (1, (vi p_set)), (5, (.v (.slice none 0 0)))]) (H' := []) ⟨Le.refl _, Le.refl _, Le.refl _, True.intro⟩ True.intro rfl) ?_
  obtain ⟨v1, hv1, h⟩ := bindS h
  refine Ok.seqw ⟨Cat.tab [(5, (.o 33))], [(33, .own 87 3 (List.map c_span_edge v1))]⟩ ?_ ?_
  · refine Ok.seq ?_
    refine Ok.region Try.tok ?_
    refine ⟨_, List.length_map _, fun _ => ?_⟩
    refine Ok.wk (Wk.tab (L := [(1, (vi p_set)), (5, (.v (.slice none 0 0))), (10, (.s (List.map c_api_Span p_l))), (11, (vi ((p_l.length : Int)))), (12, (vi (0)))]) (H' := []) ⟨Le.refl _, Le.refl _, Le.refl _, Le.refl _, Le.refl _, True.intro⟩ True.intro rfl) ?_
    refine Ok.block ?_
    refine Ok.loop (fun (s1 : Int × (List span_edge)) => ⟨Cat.tab [(1, (vi p_set)), (5, (.o 33)), (10, (.s (List.map c_api_Span p_l))), (11, (vi ((p_l.length : Int)))), (12, (vi s1.1))], [(33, .own 87 3 (List.map c_span_edge s1.2))]⟩) (span_edges_B1 p_l p_set) (s0 := (0, [])) hv1 ((Wk.own0 (t := 5) (id := 33) (E := 87) (K := 3) rfl rfl).trans (Wk.tab ⟨Le.refl _, Le.refl _, Le.refl _, Le.refl _, Le.refl _, True.intro⟩ ⟨⟨_, rfl, .refl _⟩, True.intro⟩ rfl)) ?_
    intro s1 y1 hB1 hy1
    unfold span_edges_B1 at hB1
    refine Ok.seq ?_
    refine Ok.region Try.tok ?_
    refine Ok.wk (Wk.tab (L := [(1, (vi p_set)), (5, (.o 33)), (10, (.s (List.map c_api_Span p_l))), (11, (vi ((p_l.length : Int)))), (12, (vi s1.1)), (13, (vb ((decide (s1.1 < (p_l.length : Int))))))]) (H' := [(33, .own 87 3 (List.map c_span_edge s1.2))]) ⟨Le.refl _, Le.refl _, Le.refl _, Le.refl _, Le.refl _, Le.refl _, True.intro⟩ ⟨⟨_, rfl, .refl _⟩, True.intro⟩ rfl) ?_
    refine Ok.seq ?_
    refine Ok.cond (d := 13) (b := (decide (s1.1 < (p_l.length : Int)))) rfl hB1 (fun hb hB1 => ?_) fun hb hB1 => ?_
    · refine Ok.skip ?_
      obtain ⟨v2, hv2, hB1⟩ := bindS hB1
      refine Ok.seqw ⟨Cat.tab [(1, (vi p_set)), (5, (.o 33)), (10, (.s (List.map c_api_Span p_l))), (11, (vi ((p_l.length : Int)))), (12, (vi s1.1))], [(33, .own 87 3 (List.map c_span_edge v2))]⟩ ?_ ?_
      · refine Ok.block ?_
        refine Ok.seq ?_
        refine Ok.region Try.tok ?_
        obtain ⟨x1, hx1, hv2⟩ := bindS hv2
        refine ⟨_, idx_nat hx1, _, idx_row hx1, ⟨_, rfl, ⟨_, rfl, ?_⟩⟩⟩
        refine Ok.wk (Wk.tab (L := [(1, (vi p_set)), (5, (.o 33)), (7, (.b 7 0)), (10, (.s (List.map c_api_Span p_l))), (11, (vi ((p_l.length : Int)))), (12, (vi s1.1))]) (H' := [(33, .own 87 3 (List.map c_span_edge s1.2)), (7, .box [(vi x1.From), (vi x1.To)])]) ⟨Le.refl _, Le.refl _, Le.refl _, Le.refl _, Le.refl _, Le.refl _, True.intro⟩ ⟨⟨_, rfl, .refl _⟩, ⟨_, rfl, .refl _⟩, True.intro⟩ rfl) ?_
        refine Ok.seq ?_
        refine Ok.draw (m := 8) (MD := ⟨[]⟩) (CH := ⟨[]⟩) Try.tok Try.mixed (by kernel_rfl) ?_
        refine ⟨_, rfl, ⟨_, ⟨_, rfl, rfl⟩, ⟨_, ⟨_, rfl, rfl⟩, ⟨_, rfl, ⟨_, ⟨_, rfl, rfl⟩, ⟨_, ⟨_, rfl, rfl⟩, ⟨_, rfl, ⟨_, rfl, ⟨True.intro, ?_⟩⟩⟩⟩⟩⟩⟩⟩⟩
        refine Ok.wk (Wk.tab (L := [(1, (vi p_set)), (5, (.o 33)), (8, (vi ((max x1.From (0))))), (9, (vi ((min x1.To (1099511627776))))), (10, (.s (List.map c_api_Span p_l))), (11, (vi ((p_l.length : Int)))), (12, (vi s1.1))]) (H' := [(33, .own 87 3 (List.map c_span_edge s1.2))]) ⟨Le.refl _, Le.refl _, Le.refl _, Le.refl _, Le.refl _, Le.refl _, Le.refl _, True.intro⟩ ⟨⟨_, rfl, .refl _⟩, True.intro⟩ rfl) ?_
        refine Ok.seq ?_
        refine Ok.region Try.tok ?_
        refine Ok.wk (Wk.tab (L := [(1, (vi p_set)), (5, (.o 33)), (8, (vi ((max x1.From (0))))), (9, (vi ((min x1.To (1099511627776))))), (10, (.s (List.map c_api_Span p_l))), (11, (vi ((p_l.length : Int)))), (12, (vi s1.1)), (24, (vb ((decide ((max x1.From (0)) < (min x1.To (1099511627776)))))))]) (H' := [(33, .own 87 3 (List.map c_span_edge s1.2))]) ⟨Le.refl _, Le.refl _, Le.refl _, Le.refl _, Le.refl _, Le.refl _, Le.refl _, Le.refl _, True.intro⟩ ⟨⟨_, rfl, .refl _⟩, True.intro⟩ rfl) ?_
        refine Ok.cond (d := 24) (b := (decide ((max x1.From (0)) < (min x1.To (1099511627776))))) rfl hv2 (fun hb hv2 => ?_) fun hb hv2 => ?_
        · refine Ok.region Try.tok ?_
          obtain ⟨hc1, hv2⟩ := chk_some hv2
          refine Or.inl ⟨rowsLen_map (f := c_span_edge) (n := 3) (fun _ => rfl) ([(⟨(max x1.From (0)), p_set, true⟩ : span_edge), (⟨(min x1.To (1099511627776)), p_set, false⟩ : span_edge)]), app_b2 (f := c_span_edge) (l := s1.2) (l' := ([(⟨(max x1.From (0)), p_set, true⟩ : span_edge), (⟨(min x1.To (1099511627776)), p_set, false⟩ : span_edge)])) hc1, _, (List.map_append (f := c_span_edge) (l₁ := s1.2) (l₂ := ([(⟨(max x1.From (0)), p_set, true⟩ : span_edge), (⟨(min x1.To (1099511627776)), p_set, false⟩ : span_edge)]))).symm, ?_⟩
          cases hv2
          exact Wk.tab ⟨Le.refl _, Le.refl _, Le.refl _, Le.refl _, Le.refl _, True.intro⟩ ⟨⟨_, rfl, .refl _⟩, True.intro⟩ rfl
        · refine Ok.skip ?_
          cases hv2
          exact Wk.tab ⟨Le.refl _, Le.refl _, Le.refl _, Le.refl _, Le.refl _, True.intro⟩ ⟨⟨_, rfl, .refl _⟩, True.intro⟩ rfl
      refine Ok.region Try.tok ?_
      obtain ⟨hc2, hB1⟩ := chk_some hB1
      refine (Or.inl ⟨hc2, ?_⟩)
      exact ⟨_, (Option.some.inj hB1).symm, Wk.tab ⟨Le.refl _, Le.refl _, Le.refl _, Le.refl _, Le.refl _, True.intro⟩ ⟨⟨_, rfl, .refl _⟩, True.intro⟩ rfl⟩
    · refine Ok.exit ?_
      have hB1 := out_ret hB1 hy1
      cases hB1
      exact Wk.tab ⟨Le.refl _, True.intro⟩ ⟨⟨_, rfl, .refl _⟩, True.intro⟩ rfl
  refine Ok.seq ?_
  refine Ok.region Try.tok ?_
  refine Ok.wk (Wk.tab (L := [(4, (.o 33))]) (H' := [(33, .own 87 3 (List.map c_span_edge v1))]) ⟨Le.refl _, True.intro⟩ ⟨⟨_, rfl, .refl _⟩, True.intro⟩ rfl) ?_
  refine Ok.ret ?_
  cases h
  exact (.inr ⟨_, rfl, rfl⟩)
theorem w_span_edges {p_l : List api_Span} {p_set : Int} {r : (List span_edge)} (h : span_edges p_l p_set = some r) : Pure Try.prog 70 [(.s (List.map c_api_Span p_l)), (vi p_set)] (.s (List.map c_span_edge r)) := (wo_span_edges h).pure

theorem w_cmp_isNaN_int {p_x : Int} {r : Bool} (h : cmp_isNaN_int p_x = some r) : Pure Try.prog 79 [(vi p_x)] (vb r) := by
  refine pure_of_ok (n := 6) (c := (Try.f79.body.getD .skip)) Try.tok Try.func79 (by kernel_rfl) rfl rfl (Nat.le_of_ble_eq_true rfl) ?_
  unfold cmp_isNaN_int at h
  refine Ok.wk (Wk.tab (L := [(0, (vi p_x))]) (H' := []) ⟨Le.refl _, True.intro⟩ True.intro rfl) ?_
  refine Ok.seq ?_
  refine Ok.region Try.tok ?_
  refine Ok.wk (Wk.tab (L := [(0, (vi p_x))]) (H' := []) ⟨Le.refl _, True.intro⟩ True.intro rfl) ?_
  refine Ok.seq ?_
  refine Ok.region Try.tok ?_
  refine Ok.wk (Wk.tab (L := [(2, (vb ((p_x != p_x))))]) (H' := []) ⟨Le.refl _, True.intro⟩ True.intro rfl) ?_
  refine Ok.ret ?_
  cases h
  exact Fz.v

theorem w_cmp_Compare_int {p_x : Int} {p_y : Int} {r : Int} (h : cmp_Compare_int p_x p_y = some r) : Pure Try.prog 73 [(vi p_x), (vi p_y)] (vi r) := by
  refine pure_of_ok (n := 20) (c := (Try.f73.body.getD .skip)) Try.tok Try.func73 (by kernel_rfl) rfl rfl (Nat.le_of_ble_eq_true rfl) ?_
  unfold cmp_Compare_int at h
  refine Ok.wk (Wk.tab (L := [(0, (vi p_x)), (1, (vi p_y))]) (H' := []) ⟨Le.refl _, Le.refl _, True.intro⟩ True.intro rfl) ?_
  refine Ok.seq ?_
  refine Ok.region Try.tok ?_
  refine Ok.wk (Wk.tab (L := [(0, (vi p_x)), (1, (vi p_y))]) (H' := []) ⟨Le.refl _, Le.refl _, True.intro⟩ True.intro rfl) ?_
  refine Ok.seq ?_
  refine Ok.region Try.tok ?_
  obtain ⟨x1, hx1, h⟩ := bindS h
  refine CallOk.call (w_cmp_isNaN_int hx1) (LeL.refl _) ?_
  refine Ok.wk (Wk.tab (L := [(0, (vi p_x)), (1, (vi p_y)), (5, (vb x1))]) (H' := []) ⟨Le.refl _, Le.refl _, Le.refl _, True.intro⟩ True.intro rfl) ?_
  refine Ok.seq ?_
  refine Ok.region Try.tok ?_
  obtain ⟨x2, hx2, h⟩ := bindS h
  refine CallOk.call (w_cmp_isNaN_int hx2) (LeL.refl _) ?_
  refine Ok.wk (Wk.tab (L := [(0, (vi p_x)), (1, (vi p_y)), (5, (vb x1)), (6, (vb x2))]) (H' := []) ⟨Le.refl _, Le.refl _, Le.refl _, Le.refl _, True.intro⟩ True.intro rfl) ?_
  refine Ok.seq ?_
  refine Ok.seq ?_
  refine Ok.region Try.tok ?_
  refine Ok.wk (Wk.tab (L := [(0, (vi p_x)), (1, (vi p_y)), (6, (vb x2)), (11, (vb x1))]) (H' := []) ⟨Le.refl _, Le.refl _, Le.refl _, Le.refl _, True.intro⟩ True.intro rfl) ?_
  refine Ok.cond (d := 11) (b := x1) rfl h (fun hb h => ?_) fun hb h => ?_
  · refine Ok.seq ?_
    refine Ok.seq ?_
    refine Ok.region Try.tok ?_
    refine Ok.wk (Wk.tab (L := [(12, (vb x2))]) (H' := []) ⟨Le.refl _, True.intro⟩ True.intro rfl) ?_
    refine Ok.cond (d := 12) (b := x2) rfl h (fun hb h => ?_) fun hb h => ?_
    · refine Ok.seq ?_
      refine Ok.region Try.tok ?_
      refine Ok.wk (Wk.tab (L := [(4, (vi (0)))]) (H' := []) ⟨Le.refl _, True.intro⟩ True.intro rfl) ?_
      refine Ok.ret ?_
      cases h
      exact Fz.v
    · refine Ok.skip ?_
      refine Ok.seq ?_
      refine Ok.region Try.tok ?_
      refine Ok.wk (Wk.tab (L := [(4, (vi ((-1))))]) (H' := []) ⟨Le.refl _, True.intro⟩ True.intro rfl) ?_
      refine Ok.ret ?_
      cases h
      exact Fz.v
  · refine Ok.skip ?_
    refine Ok.seq ?_
    refine Ok.seq ?_
    refine Ok.region Try.tok ?_
    refine Ok.wk (Wk.tab (L := [(0, (vi p_x)), (1, (vi p_y)), (13, (vb x2))]) (H' := []) ⟨Le.refl _, Le.refl _, Le.refl _, True.intro⟩ True.intro rfl) ?_
    refine Ok.cond (d := 13) (b := x2) rfl h (fun hb h => ?_) fun hb h => ?_
    · refine Ok.seq ?_
      refine Ok.region Try.tok ?_
      refine Ok.wk (Wk.tab (L := [(4, (vi (1)))]) (H' := []) ⟨Le.refl _, True.intro⟩ True.intro rfl) ?_
      refine Ok.ret ?_
      cases h
      exact Fz.v
    · refine Ok.skip ?_
      refine Ok.seq ?_
      refine Ok.seq ?_
      refine Ok.region Try.tok ?_
      refine Ok.wk (Wk.tab (L := [(0, (vi p_x)), (1, (vi p_y)), (16, (vb ((decide (p_x < p_y)))))]) (H' := []) ⟨Le.refl _, Le.refl _, Le.refl _, True.intro⟩ True.intro rfl) ?_
      refine Ok.cond (d := 16) (b := (decide (p_x < p_y))) rfl h (fun hb h => ?_) fun hb h => ?_
      · refine Ok.seq ?_
        refine Ok.region Try.tok ?_
        refine Ok.wk (Wk.tab (L := [(4, (vi ((-1))))]) (H' := []) ⟨Le.refl _, True.intro⟩ True.intro rfl) ?_
        refine Ok.ret ?_
        cases h
        exact Fz.v
      · refine Ok.skip ?_
        refine Ok.seq ?_
        refine Ok.seq ?_
        refine Ok.region Try.tok ?_
        refine Ok.wk (Wk.tab (L := [(19, (vb ((decide (p_x > p_y)))))]) (H' := []) ⟨Le.refl _, True.intro⟩ True.intro rfl) ?_
        refine Ok.cond (d := 19) (b := (decide (p_x > p_y))) rfl h (fun hb h => ?_) fun hb h => ?_
        · refine Ok.seq ?_
          refine Ok.region Try.tok ?_
          refine Ok.wk (Wk.tab (L := [(4, (vi (1)))]) (H' := []) ⟨Le.refl _, True.intro⟩ True.intro rfl) ?_
          refine Ok.ret ?_
          cases h
          exact Fz.v
        · refine Ok.skip ?_
          refine Ok.seq ?_
          refine Ok.region Try.tok ?_
          refine Ok.wk (Wk.tab (L := [(4, (vi (0)))]) (H' := []) ⟨Le.refl _, True.intro⟩ True.intro rfl) ?_
          refine Ok.ret ?_
          cases h
          exact Fz.v

theorem w_span_asked_of_1 {p_x : span_edge} {p_y : span_edge} {r : Int} (h : span_asked_of_1 p_x p_y = some r) : Pure Try.prog 72 [(.a [(vi p_x.at_), (vi p_x.set_), (vb p_x.begins_)]), (.a [(vi p_y.at_), (vi p_y.set_), (vb p_y.begins_)])] (vi r) := by
  refine pure_of_ok (n := 10) (c := (Try.f72.body.getD .skip)) Try.tok Try.func72 (by kernel_rfl) rfl rfl (Nat.le_of_ble_eq_true rfl) ?_
  unfold span_asked_of_1 at h
  refine Ok.wk (Wk.tab (L := [(0, (.a [(vi p_x.at_), (vi p_x.set_), (vb p_x.begins_)])), (1, (.a [(vi p_y.at_), (vi p_y.set_), (vb p_y.begins_)]))]) (H' := []) ⟨Le.refl _, Le.refl _, True.intro⟩ True.intro rfl) ?_
  refine Ok.seq ?_
  refine Ok.region Try.tok ?_
  refine Ok.wk (Wk.tab (L := [(2, (.b 2 0)), (3, (.b 3 0))]) (H' := [(2, .box [(vi p_x.at_), (vi p_x.set_), (vb p_x.begins_)]), (3, .box [(vi p_y.at_), (vi p_y.set_), (vb p_y.begins_)])]) ⟨Le.refl _, Le.refl _, True.intro⟩ ⟨⟨_, rfl, .refl _⟩, ⟨_, rfl, .refl _⟩, True.intro⟩ rfl) ?_
  refine Ok.seq ?_
  refine Ok.region Try.tok ?_
  obtain ⟨x1, hx1, h⟩ := bindS h
  refine ⟨_, rfl, ⟨_, rfl, ?_⟩⟩
  refine CallOk.call (w_cmp_Compare_int hx1) (LeL.refl _) ?_
  refine Ok.wk (Wk.tab (L := [(4, (vi x1))]) (H' := []) ⟨Le.refl _, True.intro⟩ True.intro rfl) ?_
  refine Ok.ret ?_
  cases h
  exact Fz.v

theorem w_span_Add_1 {p_x : Bool} {p_y : Bool} {r : Bool} (h : span_Add_1 p_x p_y = some r) : Pure Try.prog 74 [(vb p_x), (vb p_y)] (vb r) := by
  refine pure_of_ok (n := 9) (c := (Try.f74.body.getD .skip)) Try.tok Try.func74 (by kernel_rfl) rfl rfl (Nat.le_of_ble_eq_true rfl) ?_
  unfold span_Add_1 at h
  refine Ok.wk (Wk.tab (L := [(0, (vb p_x)), (1, (vb p_y))]) (H' := []) ⟨Le.refl _, Le.refl _, True.intro⟩ True.intro rfl) ?_
  refine Ok.seq ?_
  refine Ok.region Try.tok ?_
  refine Ok.wk (Wk.tab (L := [(0, (vb p_x)), (1, (vb p_y))]) (H' := []) ⟨Le.refl _, Le.refl _, True.intro⟩ True.intro rfl) ?_
  obtain ⟨v1, hv1, h⟩ := bindS h
  refine Ok.seqw ⟨Cat.tab [(4, (vb v1))], []⟩ ?_ ?_
  · refine Ok.region Try.tok ?_
    obtain ⟨c1, hg1, hv1⟩ := bindS hv1
    refine Br.itf hg1 (fun hb hg1 => ?_) fun hb hg1 => ?_
    · cases hg1
      cases hv1
      exact Wk.tab ⟨Le.refl _, True.intro⟩ True.intro rfl
    · cases hg1
      cases hv1
      exact Wk.tab ⟨Le.refl _, True.intro⟩ True.intro rfl
  refine Ok.ret ?_
  cases h
  exact Fz.v

theorem wo_span_asked_of__span_Add_1 {p_a : List api_Span} {p_b : List api_Span} {r : (List api_Span)} (h : span_asked_of__span_Add_1 p_a p_b = some r) : POwn Try.prog 64 [(.a [(.c (.func 74) [] [])]), (.s (List.map c_api_Span p_a)), (.s (List.map c_api_Span p_b))] 24 2 (List.map c_api_Span r) := by
  refine pown_of_ok (n := 87) (c := (Try.f64.body.getD .skip)) Try.tok Try.func64 (by kernel_rfl) rfl rfl (Nat.le_of_ble_eq_true rfl) ?_
  unfold span_asked_of__span_Add_1 at h
  refine Ok.wk (Wk.tab (L := [(0, (.a [(.c (.func 74) [] [])])), (1, (.s (List.map c_api_Span p_a))), (2, (.s (List.map c_api_Span p_b)))]) (H' := []) ⟨Le.refl _, Le.refl _, Le.refl _, True.intro⟩ True.intro rfl) ?_
  refine Ok.seq ?_
  refine Ok.region Try.tok ?_
  refine Ok.wk (Wk.tab (L := [(1, (.s (List.map c_api_Span p_a))), (2, (.s (List.map c_api_Span p_b))), (3, (.b 3 0))]) (H' := [(3, .box [(.c (.func 74) [] [])])]) ⟨Le.refl _, Le.refl _, Le.refl _, True.intro⟩ ⟨⟨_, rfl, .refl _⟩, True.intro⟩ rfl) ?_
  refine Ok.seq ?_
  refine Ok.region Try.tok ?_
  obtain ⟨x1, hx1, h⟩ := bindS h
  refine CallOk.own (D := 16) (wo_span_edges hx1) (LeL.refl _) rfl ?_
  obtain ⟨x2, hx2, h⟩ := bindS h
  refine CallOk.call (w_span_edges hx2) (LeL.refl _) ?_
  obtain ⟨hc1, h⟩ := chk_some h
  refine ⟨rowsLen_map (f := c_span_edge) (n := 3) (fun _ => rfl) x2, app_b2 (f := c_span_edge) (l := x1) (l' := x2) hc1, _, (List.map_append (f := c_span_edge) (l₁ := x1) (l₂ := x2)).symm, ?_⟩
  refine Ok.wk (Wk.tab (L := [(3, (.b 3 0)), (7, (.o 16))]) (H' := [(3, .box [(.c (.func 74) [] [])]), (16, .own 87 3 (List.map c_span_edge ((x1 ++ x2))))]) ⟨Le.refl _, Le.refl _, True.intro⟩ ⟨⟨_, rfl, .refl _⟩, ⟨_, rfl, .refl _⟩, True.intro⟩ rfl) ?_
  refine Ok.seq ?_
  refine Ok.region Try.tok ?_
  obtain ⟨x3, hx3, h⟩ := bindS h
  refine CallOk.chgLe (id := 16) (pchg_sortF (E := 87) (enc := c_span_edge) Try.says71 Try.enters71 (fun _ => rfl) (fun _ => rfl) (fun _ _ _ h => w_span_asked_of_1 (M := Mono.yes) h) (enters_of Try.func72 (by kernel_rfl) rfl) hx3) rfl (.refl _) rfl (.cons Lr.o (.cons (Lr.imm rfl) .nil)) ?_
  rintro _ _ ⟨rfl, rfl⟩
  refine Ok.wk (Wk.tab (L := [(3, (.b 3 0)), (7, (.o 16))]) (H' := [(3, .box [(.c (.func 74) [] [])]), (16, .own 87 3 (List.map c_span_edge x3))]) ⟨Le.refl _, Le.refl _, True.intro⟩ ⟨⟨_, rfl, .refl _⟩, ⟨_, rfl, .refl _⟩, True.intro⟩ rfl) ?_
  refine Ok.seq ?_
  refine Ok.region Try.tok ?_
  refine Ok.wk (Wk.tab (L := [(3, (.b 3 0)), (7, (.o 16)), (8, (.v (.slice none 0 0)))]) (H' := [(3, .box [(.c (.func 74) [] [])]), (16, .own 87 3 (List.map c_span_edge x3))]) ⟨Le.refl _, Le.refl _, Le.refl _, True.intro⟩ ⟨⟨_, rfl, .refl _⟩, ⟨_, rfl, .refl _⟩, True.intro⟩ rfl) ?_
  refine Ok.seq ?_
  refine Ok.region Try.tok ?_
  refine Ok.wk (Wk.tab (L := [(3, (.b 3 0)), (7, (.o 16)), (8, (.v (.slice none 0 0))), (9, (.b 9 0))]) (H' := [(3, .box [(.c (.func 74) [] [])]), (16, .own 87 3 (List.map c_span_edge x3)), (9, .box (List.map vi ((List.replicate 2 0))))]) ⟨Le.refl _, Le.refl _, Le.refl _, Le.refl _, True.intro⟩ ⟨⟨_, rfl, .refl _⟩, ⟨_, rfl, .refl _⟩, ⟨_, rfl, .refl _⟩, True.intro⟩ rfl) ?_
  refine Ok.seq ?_
  refine Ok.region Try.tok ?_
  refine Ok.wk (Wk.tab (L := [(3, (.b 3 0)), (7, (.o 16)), (8, (.v (.slice none 0 0))), (9, (.b 9 0)), (10, (vi ((-1))))]) (H' := [(3, .box [(.c (.func 74) [] [])]), (16, .own 87 3 (List.map c_span_edge x3)), (9, .box (List.map vi ((List.replicate 2 0))))]) ⟨Le.refl _, Le.refl _, Le.refl _, Le.refl _, Le.refl _, True.intro⟩ ⟨⟨_, rfl, .refl _⟩, ⟨_, rfl, .refl _⟩, ⟨_, rfl, .refl _⟩, True.intro⟩ rfl) ?_
  obtain ⟨v1, hv1, h⟩ := bindS h
  refine Ok.seqw ⟨Cat.tab [(8, (.o 84))], [(84, .own 24 2 (List.map c_api_Span v1))]⟩ ?_ ?_
  · refine Ok.seq ?_
    refine Ok.region Try.tok ?_
    refine ⟨_, List.length_map _, fun _ => ?_⟩
    refine Ok.wk (Wk.tab (L := [(3, (.b 3 0)), (7, (.o 16)), (8, (.v (.slice none 0 0))), (9, (.b 9 0)), (10, (vi ((-1)))), (22, (.o 16)), (23, (vi ((x3.length : Int)))), (24, (vi (0)))]) (H' := [(3, .box [(.c (.func 74) [] [])]), (16, .own 87 3 (List.map c_span_edge x3)), (9, .box (List.map vi ((List.replicate 2 0))))]) ⟨Le.refl _, Le.refl _, Le.refl _, Le.refl _, Le.refl _, Le.refl _, Le.refl _, Le.refl _, True.intro⟩ ⟨⟨_, rfl, .refl _⟩, ⟨_, rfl, .refl _⟩, ⟨_, rfl, .refl _⟩, True.intro⟩ rfl) ?_
    refine Ok.block ?_
    refine Ok.loop (fun (s1 : Int × Int × (List api_Span) × (List Int)) => ⟨Cat.tab [(3, (.b 3 0)), (7, (.o 16)), (8, (.o 84)), (9, (.b 9 0)), (10, (vi s1.1)), (22, (.o 16)), (23, (vi ((x3.length : Int)))), (24, (vi s1.2.1))], [(3, .box [(.c (.func 74) [] [])]), (16, .own 87 3 (List.map c_span_edge x3)), (84, .own 24 2 (List.map c_api_Span s1.2.2.1)), (9, .box (List.map vi s1.2.2.2))]⟩) (span_asked_of__span_Add_1_B1 x3) (s0 := ((-1), 0, [], (List.replicate 2 0))) hv1 ((Wk.own0 (t := 8) (id := 84) (E := 24) (K := 2) rfl rfl).trans (Wk.tab ⟨Le.refl _, Le.refl _, Le.refl _, Le.refl _, Le.refl _, Le.refl _, Le.refl _, Le.refl _, True.intro⟩ ⟨⟨_, rfl, .refl _⟩, ⟨_, rfl, .refl _⟩, ⟨_, rfl, .refl _⟩, ⟨_, rfl, .arr1 (fun _ _ => rfl)⟩, True.intro⟩ rfl)) ?_
    intro s1 y1 hB1 hy1
    unfold span_asked_of__span_Add_1_B1 at hB1
    refine Ok.seq ?_
    refine Ok.region Try.tok ?_
    refine Ok.wk (Wk.tab (L := [(3, (.b 3 0)), (7, (.o 16)), (8, (.o 84)), (9, (.b 9 0)), (10, (vi s1.1)), (22, (.o 16)), (23, (vi ((x3.length : Int)))), (24, (vi s1.2.1)), (25, (vb ((decide (s1.2.1 < (x3.length : Int))))))]) (H' := [(3, .box [(.c (.func 74) [] [])]), (16, .own 87 3 (List.map c_span_edge x3)), (84, .own 24 2 (List.map c_api_Span s1.2.2.1)), (9, .box (List.map vi s1.2.2.2))]) ⟨Le.refl _, Le.refl _, Le.refl _, Le.refl _, Le.refl _, Le.refl _, Le.refl _, Le.refl _, Le.refl _, True.intro⟩ ⟨⟨_, rfl, .refl _⟩, ⟨_, rfl, .refl _⟩, ⟨_, rfl, .refl _⟩, ⟨_, rfl, .refl _⟩, True.intro⟩ rfl) ?_
    refine Ok.seq ?_
    refine Ok.cond (d := 25) (b := (decide (s1.2.1 < (x3.length : Int)))) rfl hB1 (fun hb hB1 => ?_) fun hb hB1 => ?_
    · refine Ok.skip ?_
      obtain ⟨v2, hv2, hB1⟩ := bindS hB1
      refine Ok.seqw ⟨Cat.tab [(3, (.b 3 0)), (7, (.o 16)), (8, (.o 84)), (9, (.b 9 0)), (10, (vi v2.1)), (22, (.o 16)), (23, (vi ((x3.length : Int)))), (24, (vi s1.2.1))], [(3, .box [(.c (.func 74) [] [])]), (16, .own 87 3 (List.map c_span_edge x3)), (84, .own 24 2 (List.map c_api_Span v2.2.1)), (9, .box (List.map vi v2.2.2))]⟩ ?_ ?_
      · refine Ok.block ?_
        refine Ok.seq ?_
        refine Ok.region Try.tok ?_
        obtain ⟨x4, hx4, hv2⟩ := bindS hv2
        refine ⟨_, idx_nat hx4, idx_ltm hx4, ⟨_, idx_row hx4, rfl, _, rfl, ⟨_, rfl, ?_⟩⟩⟩
        refine Ok.wk (Wk.tab (L := [(3, (.b 3 0)), (7, (.o 16)), (8, (.o 84)), (9, (.b 9 0)), (10, (vi s1.1)), (11, (vi s1.2.1)), (12, (.b 12 0)), (22, (.o 16)), (23, (vi ((x3.length : Int)))), (24, (vi s1.2.1))]) (H' := [(3, .box [(.c (.func 74) [] [])]), (16, .own 87 3 (List.map c_span_edge x3)), (84, .own 24 2 (List.map c_api_Span s1.2.2.1)), (9, .box (List.map vi s1.2.2.2)), (12, .box [(vi x4.at_), (vi x4.set_), (vb x4.begins_)])]) ⟨Le.refl _, Le.refl _, Le.refl _, Le.refl _, Le.refl _, Le.refl _, Le.refl _, Le.refl _, Le.refl _, Le.refl _, True.intro⟩ ⟨⟨_, rfl, .refl _⟩, ⟨_, rfl, .refl _⟩, ⟨_, rfl, .refl _⟩, ⟨_, rfl, .arr1 (fun _ _ => rfl)⟩, ⟨_, rfl, .refl _⟩, True.intro⟩ rfl) ?_
        refine Ok.seq ?_
        refine Ok.region Try.tok ?_
        refine Ok.wk (Wk.tab (L := [(3, (.b 3 0)), (7, (.o 16)), (8, (.o 84)), (9, (.b 9 0)), (10, (vi s1.1)), (11, (vi s1.2.1)), (12, (.b 12 0)), (13, (vi (1))), (22, (.o 16)), (23, (vi ((x3.length : Int)))), (24, (vi s1.2.1))]) (H' := [(3, .box [(.c (.func 74) [] [])]), (16, .own 87 3 (List.map c_span_edge x3)), (84, .own 24 2 (List.map c_api_Span s1.2.2.1)), (9, .box (List.map vi s1.2.2.2)), (12, .box [(vi x4.at_), (vi x4.set_), (vb x4.begins_)])]) ⟨Le.refl _, Le.refl _, Le.refl _, Le.refl _, Le.refl _, Le.refl _, Le.refl _, Le.refl _, Le.refl _, Le.refl _, Le.refl _, True.intro⟩ ⟨⟨_, rfl, .refl _⟩, ⟨_, rfl, .refl _⟩, ⟨_, rfl, .refl _⟩, ⟨_, rfl, .refl _⟩, ⟨_, rfl, .refl _⟩, True.intro⟩ rfl) ?_
        refine Ok.seq ?_
        refine Ok.block ?_
        obtain ⟨v3, hv3, hv2⟩ := bindS hv2
        refine Ok.seqw ⟨Cat.tab [(3, (.b 3 0)), (7, (.o 16)), (8, (.o 84)), (9, (.b 9 0)), (10, (vi s1.1)), (11, (vi s1.2.1)), (12, (.b 12 0)), (13, (vi v3)), (22, (.o 16)), (23, (vi ((x3.length : Int)))), (24, (vi s1.2.1))], [(3, .box [(.c (.func 74) [] [])]), (16, .own 87 3 (List.map c_span_edge x3)), (84, .own 24 2 (List.map c_api_Span s1.2.2.1)), (9, .box (List.map vi s1.2.2.2)), (12, .box [(vi x4.at_), (vi x4.set_), (vb x4.begins_)])]⟩ ?_ ?_
        · refine Ok.block ?_
          refine Ok.seq ?_
          refine Ok.block ?_
          refine Ok.seq ?_
          refine Ok.seq ?_
          refine Ok.region Try.tok ?_
          refine ⟨_, rfl, ?_⟩
          refine Ok.wk (Wk.tab (L := [(3, (.b 3 0)), (7, (.o 16)), (8, (.o 84)), (9, (.b 9 0)), (10, (vi s1.1)), (11, (vi s1.2.1)), (12, (.b 12 0)), (13, (vi (1))), (22, (.o 16)), (23, (vi ((x3.length : Int)))), (24, (vi s1.2.1)), (29, (vb ((!x4.begins_))))]) (H' := [(3, .box [(.c (.func 74) [] [])]), (16, .own 87 3 (List.map c_span_edge x3)), (84, .own 24 2 (List.map c_api_Span s1.2.2.1)), (9, .box (List.map vi s1.2.2.2)), (12, .box [(vi x4.at_), (vi x4.set_), (vb x4.begins_)])]) ⟨Le.refl _, Le.refl _, Le.refl _, Le.refl _, Le.refl _, Le.refl _, Le.refl _, Le.refl _, Le.refl _, Le.refl _, Le.refl _, Le.refl _, True.intro⟩ ⟨⟨_, rfl, .refl _⟩, ⟨_, rfl, .refl _⟩, ⟨_, rfl, .refl _⟩, ⟨_, rfl, .refl _⟩, ⟨_, rfl, .refl _⟩, True.intro⟩ rfl) ?_
          refine Ok.cond (d := 29) (b := (!x4.begins_)) rfl hv3 (fun hb hv3 => ?_) fun hb hv3 => ?_
          · refine Ok.exit ?_
            refine Ok.region Try.tok ?_
            cases hv3
            exact Wk.tab ⟨Le.refl _, Le.refl _, Le.refl _, Le.refl _, Le.refl _, Le.refl _, Le.refl _, Le.refl _, Le.refl _, Le.refl _, Le.refl _, True.intro⟩ ⟨⟨_, rfl, .refl _⟩, ⟨_, rfl, .refl _⟩, ⟨_, rfl, .refl _⟩, ⟨_, rfl, .refl _⟩, ⟨_, rfl, .refl _⟩, True.intro⟩ rfl
          · refine Ok.skip ?_
            refine Ok.exit ?_
            cases hv3
            exact Wk.tab ⟨Le.refl _, Le.refl _, Le.refl _, Le.refl _, Le.refl _, Le.refl _, Le.refl _, Le.refl _, Le.refl _, Le.refl _, Le.refl _, True.intro⟩ ⟨⟨_, rfl, .refl _⟩, ⟨_, rfl, .refl _⟩, ⟨_, rfl, .refl _⟩, ⟨_, rfl, .refl _⟩, ⟨_, rfl, .refl _⟩, True.intro⟩ rfl
        refine Ok.seq ?_
        refine Ok.region Try.tok ?_
        obtain ⟨x5, hx5, hv2⟩ := bindS hv2
        obtain ⟨hc2, hv2⟩ := chk_some hv2
        obtain ⟨hc3, hv2⟩ := chk_some hv2
        obtain ⟨x6, hx6, hv2⟩ := bindS hv2
        obtain ⟨hc4, hv2⟩ := chk_some hv2
        refine ⟨_, rfl, ⟨_, idx_nat hx5, arr_lt hx5 hc2, bif_of (arr_ble hx5) ⟨_, arr_get hx5, (Or.inl ⟨hc3, ⟨_, idx_nat hx6, arr_lt hx6 hc4, bif_of (arr_st hx6) ⟨_, arr_set hx6, ?_⟩⟩⟩)⟩⟩⟩
        refine Ok.wk (Wk.tab (L := [(3, (.b 3 0)), (7, (.o 16)), (8, (.o 84)), (9, (.b 9 0)), (10, (vi s1.1)), (11, (vi s1.2.1)), (12, (.b 12 0)), (22, (.o 16)), (23, (vi ((x3.length : Int)))), (24, (vi s1.2.1))]) (H' := [(3, .box [(.c (.func 74) [] [])]), (16, .own 87 3 (List.map c_span_edge x3)), (84, .own 24 2 (List.map c_api_Span s1.2.2.1)), (9, .box (List.map vi ((s1.2.2.2.set x4.set_.toNat ((x5 + v3)))))), (12, .box [(vi x4.at_), (vi x4.set_), (vb x4.begins_)])]) ⟨Le.refl _, Le.refl _, Le.refl _, Le.refl _, Le.refl _, Le.refl _, Le.refl _, Le.refl _, Le.refl _, Le.refl _, True.intro⟩ ⟨⟨_, rfl, .refl _⟩, ⟨_, rfl, .refl _⟩, ⟨_, rfl, .refl _⟩, ⟨_, rfl, .refl _⟩, ⟨_, rfl, .refl _⟩, True.intro⟩ rfl) ?_
        refine Ok.exit ?_
        refine Ok.seq ?_
        obtain ⟨v4, hv4, hv2⟩ := bindS hv2
        refine Ok.seqw ⟨Cat.tab [(3, (.b 3 0)), (7, (.o 16)), (8, (.o 84)), (9, (.b 9 0)), (10, (vi s1.1)), (12, (.b 12 0)), (22, (.o 16)), (23, (vi ((x3.length : Int)))), (24, (vi s1.2.1)), (55, (vb v4))], [(3, .box [(.c (.func 74) [] [])]), (16, .own 87 3 (List.map c_span_edge x3)), (84, .own 24 2 (List.map c_api_Span s1.2.2.1)), (9, .box (List.map vi ((s1.2.2.2.set x4.set_.toNat ((x5 + v3)))))), (12, .box [(vi x4.at_), (vi x4.set_), (vb x4.begins_)])]⟩ ?_ ?_
        · refine Ok.draw (m := 16) (MD := ⟨[]⟩) (CH := ⟨[]⟩) Try.tok Try.mixed (by kernel_rfl) ?_
          obtain ⟨hc5, hv4⟩ := chk_some hv4
          refine ⟨_, rfl, ⟨_, (Or.inl ⟨hc5, rfl⟩), ⟨_, rfl, ⟨_, ⟨_, List.length_map _, fun _ => rfl⟩, ⟨_, rfl, ⟨_, rfl, ?_⟩⟩⟩⟩⟩⟩
          obtain ⟨c1, hg1, hv4⟩ := bindS hv4
          refine Br.ite hg1 (fun hb hg1 => ?_) fun hb hg1 => ?_
          · obtain ⟨hc6, hg1⟩ := chk_some hg1
            obtain ⟨x7, hx7, hg1⟩ := bindS hg1
            refine ⟨_, rfl, ⟨_, rfl, ⟨_, (Or.inl ⟨hc6, rfl⟩), ⟨_, ⟨_, idx_nat hx7, idx_ltm hx7, rfl⟩, ⟨_, rfl, ⟨_, ⟨_, idx_row hx7, rfl, _, rfl, rfl⟩, ⟨_, rfl, ⟨_, ⟨_, rfl, rfl⟩, ⟨_, rfl, ?_⟩⟩⟩⟩⟩⟩⟩⟩⟩
            cases hg1
            refine ⟨_, rfl, ?_⟩
            refine ⟨True.intro, ?_⟩
            cases hv4
            exact Wk.tab ⟨Le.refl _, Le.refl _, Le.refl _, Le.refl _, Le.refl _, Le.refl _, Le.refl _, Le.refl _, Le.refl _, Le.refl _, True.intro⟩ ⟨⟨_, rfl, .refl _⟩, ⟨_, rfl, .refl _⟩, ⟨_, rfl, .refl _⟩, ⟨_, rfl, .refl _⟩, ⟨_, rfl, .refl _⟩, True.intro⟩ rfl
          · cases hg1
            refine ⟨_, rfl, ?_⟩
            refine ⟨True.intro, ?_⟩
            cases hv4
            exact Wk.tab ⟨Le.refl _, Le.refl _, Le.refl _, Le.refl _, Le.refl _, Le.refl _, Le.refl _, Le.refl _, Le.refl _, Le.refl _, True.intro⟩ ⟨⟨_, rfl, .refl _⟩, ⟨_, rfl, .refl _⟩, ⟨_, rfl, .refl _⟩, ⟨_, rfl, .refl _⟩, ⟨_, rfl, .refl _⟩, True.intro⟩ rfl
        refine Ok.cond (d := 55) (b := v4) rfl hv2 (fun hb hv2 => ?_) fun hb hv2 => ?_
        · refine Ok.exit ?_
          cases hv2
          exact Wk.tab ⟨Le.refl _, Le.refl _, Le.refl _, Le.refl _, Le.refl _, Le.refl _, Le.refl _, Le.refl _, True.intro⟩ ⟨⟨_, rfl, .refl _⟩, ⟨_, rfl, .refl _⟩, ⟨_, rfl, .refl _⟩, ⟨_, rfl, .refl _⟩, True.intro⟩ rfl
        · refine Ok.skip ?_
          refine Ok.seq ?_
          refine Ok.region Try.tok ?_
          obtain ⟨x8, hx8, hv2⟩ := bindS hv2
          obtain ⟨x9, hx9, hv2⟩ := bindS hv2
          obtain ⟨x10, hx10, hv2⟩ := bindS hv2
          refine ⟨_, rfl, ⟨_, idx_nat hx8, arr_lt hx8 (by decide), bif_of (arr_ble hx8) ⟨_, arr_get hx8, ⟨_, idx_nat hx9, arr_lt hx9 (by decide), bif_of (arr_ble hx9) ⟨_, arr_get hx9, ?_⟩⟩⟩⟩⟩
          refine CallOk.call (w_span_Add_1 hx10) (LeL.refl _) ?_
          refine Ok.wk (Wk.tab (L := [(3, (.b 3 0)), (7, (.o 16)), (8, (.o 84)), (9, (.b 9 0)), (10, (vi s1.1)), (12, (.b 12 0)), (14, (vb x10)), (22, (.o 16)), (23, (vi ((x3.length : Int)))), (24, (vi s1.2.1))]) (H' := [(3, .box [(.c (.func 74) [] [])]), (16, .own 87 3 (List.map c_span_edge x3)), (84, .own 24 2 (List.map c_api_Span s1.2.2.1)), (9, .box (List.map vi ((s1.2.2.2.set x4.set_.toNat ((x5 + v3)))))), (12, .box [(vi x4.at_), (vi x4.set_), (vb x4.begins_)])]) ⟨Le.refl _, Le.refl _, Le.refl _, Le.refl _, Le.refl _, Le.refl _, Le.refl _, Le.refl _, Le.refl _, Le.refl _, True.intro⟩ ⟨⟨_, rfl, .refl _⟩, ⟨_, rfl, .refl _⟩, ⟨_, rfl, .refl _⟩, ⟨_, rfl, .refl _⟩, ⟨_, rfl, .refl _⟩, True.intro⟩ rfl) ?_
          obtain ⟨v5, hv5, hv2⟩ := bindS hv2
          refine Ok.seqw ⟨Cat.tab [(3, (.b 3 0)), (7, (.o 16)), (8, (.o 84)), (9, (.b 9 0)), (10, (vi v5)), (12, (.b 12 0)), (14, (vb x10)), (22, (.o 16)), (23, (vi ((x3.length : Int)))), (24, (vi s1.2.1))], [(3, .box [(.c (.func 74) [] [])]), (16, .own 87 3 (List.map c_span_edge x3)), (84, .own 24 2 (List.map c_api_Span s1.2.2.1)), (9, .box (List.map vi ((s1.2.2.2.set x4.set_.toNat ((x5 + v3)))))), (12, .box [(vi x4.at_), (vi x4.set_), (vb x4.begins_)])]⟩ ?_ ?_
          · obtain ⟨v6, hv6, hv5⟩ := bindS hv5
            refine Ok.seqw ⟨Cat.tab [(3, (.b 3 0)), (7, (.o 16)), (8, (.o 84)), (9, (.b 9 0)), (10, (vi s1.1)), (12, (.b 12 0)), (14, (vb x10)), (22, (.o 16)), (23, (vi ((x3.length : Int)))), (24, (vi s1.2.1)), (69, (vb v6))], [(3, .box [(.c (.func 74) [] [])]), (16, .own 87 3 (List.map c_span_edge x3)), (84, .own 24 2 (List.map c_api_Span s1.2.2.1)), (9, .box (List.map vi ((s1.2.2.2.set x4.set_.toNat ((x5 + v3)))))), (12, .box [(vi x4.at_), (vi x4.set_), (vb x4.begins_)])]⟩ ?_ ?_
            · refine Ok.region Try.tok ?_
              obtain ⟨c2, hg2, hv6⟩ := bindS hv6
              refine Br.ite hg2 (fun hb hg2 => ?_) fun hb hg2 => ?_
              · cases hg2
                cases hv6
                exact Wk.tab ⟨Le.refl _, Le.refl _, Le.refl _, Le.refl _, Le.refl _, Le.refl _, Le.refl _, Le.refl _, Le.refl _, Le.refl _, Le.refl _, True.intro⟩ ⟨⟨_, rfl, .refl _⟩, ⟨_, rfl, .refl _⟩, ⟨_, rfl, .refl _⟩, ⟨_, rfl, .refl _⟩, ⟨_, rfl, .refl _⟩, True.intro⟩ rfl
              · cases hg2
                cases hv6
                exact Wk.tab ⟨Le.refl _, Le.refl _, Le.refl _, Le.refl _, Le.refl _, Le.refl _, Le.refl _, Le.refl _, Le.refl _, Le.refl _, Le.refl _, True.intro⟩ ⟨⟨_, rfl, .refl _⟩, ⟨_, rfl, .refl _⟩, ⟨_, rfl, .refl _⟩, ⟨_, rfl, .refl _⟩, ⟨_, rfl, .refl _⟩, True.intro⟩ rfl
            refine Ok.cond (d := 69) (b := v6) rfl hv5 (fun hb hv5 => ?_) fun hb hv5 => ?_
            · refine Ok.region Try.tok ?_
              refine ⟨_, rfl, ?_⟩
              cases hv5
              exact Wk.tab ⟨Le.refl _, Le.refl _, Le.refl _, Le.refl _, Le.refl _, Le.refl _, Le.refl _, Le.refl _, Le.refl _, Le.refl _, True.intro⟩ ⟨⟨_, rfl, .refl _⟩, ⟨_, rfl, .refl _⟩, ⟨_, rfl, .refl _⟩, ⟨_, rfl, .refl _⟩, ⟨_, rfl, .refl _⟩, True.intro⟩ rfl
            · refine Ok.skip ?_
              cases hv5
              exact Wk.tab ⟨Le.refl _, Le.refl _, Le.refl _, Le.refl _, Le.refl _, Le.refl _, Le.refl _, Le.refl _, Le.refl _, Le.refl _, True.intro⟩ ⟨⟨_, rfl, .refl _⟩, ⟨_, rfl, .refl _⟩, ⟨_, rfl, .refl _⟩, ⟨_, rfl, .refl _⟩, ⟨_, rfl, .refl _⟩, True.intro⟩ rfl
          obtain ⟨v7, hv7, hv2⟩ := bindS hv2
          refine Ok.seqw ⟨Cat.tab [(3, (.b 3 0)), (7, (.o 16)), (8, (.o 84)), (9, (.b 9 0)), (10, (vi v5)), (12, (.b 12 0)), (22, (.o 16)), (23, (vi ((x3.length : Int)))), (24, (vi s1.2.1)), (77, (vb v7))], [(3, .box [(.c (.func 74) [] [])]), (16, .own 87 3 (List.map c_span_edge x3)), (84, .own 24 2 (List.map c_api_Span s1.2.2.1)), (9, .box (List.map vi ((s1.2.2.2.set x4.set_.toNat ((x5 + v3)))))), (12, .box [(vi x4.at_), (vi x4.set_), (vb x4.begins_)])]⟩ ?_ ?_
          · refine Ok.region Try.tok ?_
            obtain ⟨c3, hg3, hv7⟩ := bindS hv7
            refine Br.ite hg3 (fun hb hg3 => ?_) fun hb hg3 => ?_
            · cases hg3
              cases hv7
              exact Wk.tab ⟨Le.refl _, Le.refl _, Le.refl _, Le.refl _, Le.refl _, Le.refl _, Le.refl _, Le.refl _, Le.refl _, Le.refl _, True.intro⟩ ⟨⟨_, rfl, .refl _⟩, ⟨_, rfl, .refl _⟩, ⟨_, rfl, .refl _⟩, ⟨_, rfl, .refl _⟩, ⟨_, rfl, .refl _⟩, True.intro⟩ rfl
            · cases hg3
              cases hv7
              exact Wk.tab ⟨Le.refl _, Le.refl _, Le.refl _, Le.refl _, Le.refl _, Le.refl _, Le.refl _, Le.refl _, Le.refl _, Le.refl _, True.intro⟩ ⟨⟨_, rfl, .refl _⟩, ⟨_, rfl, .refl _⟩, ⟨_, rfl, .refl _⟩, ⟨_, rfl, .refl _⟩, ⟨_, rfl, .refl _⟩, True.intro⟩ rfl
          refine Ok.cond (d := 77) (b := v7) rfl hv2 (fun hb hv2 => ?_) fun hb hv2 => ?_
          · refine Ok.seq ?_
            refine Ok.region Try.tok ?_
            obtain ⟨hc7, hv2⟩ := chk_some hv2
            refine ⟨_, rfl, Or.inl ⟨rowsLen_map (f := c_api_Span) (n := 2) (fun _ => rfl) ([(⟨v5, x4.at_⟩ : api_Span)]), app_b2 (f := c_api_Span) (l := s1.2.2.1) (l' := ([(⟨v5, x4.at_⟩ : api_Span)])) hc7, _, (List.map_append (f := c_api_Span) (l₁ := s1.2.2.1) (l₂ := ([(⟨v5, x4.at_⟩ : api_Span)]))).symm, ?_⟩⟩
            refine Ok.wk (Wk.tab (L := [(3, (.b 3 0)), (7, (.o 16)), (8, (.o 84)), (9, (.b 9 0)), (22, (.o 16)), (23, (vi ((x3.length : Int)))), (24, (vi s1.2.1))]) (H' := [(3, .box [(.c (.func 74) [] [])]), (16, .own 87 3 (List.map c_span_edge x3)), (84, .own 24 2 (List.map c_api_Span ((s1.2.2.1 ++ [(⟨v5, x4.at_⟩ : api_Span)])))), (9, .box (List.map vi ((s1.2.2.2.set x4.set_.toNat ((x5 + v3))))))]) ⟨Le.refl _, Le.refl _, Le.refl _, Le.refl _, Le.refl _, Le.refl _, Le.refl _, True.intro⟩ ⟨⟨_, rfl, .refl _⟩, ⟨_, rfl, .refl _⟩, ⟨_, rfl, .refl _⟩, ⟨_, rfl, .arr1 (fun _ _ => rfl)⟩, True.intro⟩ rfl) ?_
            refine Ok.region Try.tok ?_
            cases hv2
            exact Wk.tab ⟨Le.refl _, Le.refl _, Le.refl _, Le.refl _, Le.refl _, Le.refl _, Le.refl _, Le.refl _, True.intro⟩ ⟨⟨_, rfl, .refl _⟩, ⟨_, rfl, .refl _⟩, ⟨_, rfl, .refl _⟩, ⟨_, rfl, .refl _⟩, True.intro⟩ rfl
          · refine Ok.skip ?_
            cases hv2
            exact Wk.tab ⟨Le.refl _, Le.refl _, Le.refl _, Le.refl _, Le.refl _, Le.refl _, Le.refl _, Le.refl _, True.intro⟩ ⟨⟨_, rfl, .refl _⟩, ⟨_, rfl, .refl _⟩, ⟨_, rfl, .refl _⟩, ⟨_, rfl, .refl _⟩, True.intro⟩ rfl
      refine Ok.region Try.tok ?_
      obtain ⟨hc8, hB1⟩ := chk_some hB1
      refine (Or.inl ⟨hc8, ?_⟩)
      exact ⟨_, (Option.some.inj hB1).symm, Wk.tab ⟨Le.refl _, Le.refl _, Le.refl _, Le.refl _, Le.refl _, Le.refl _, Le.refl _, Le.refl _, True.intro⟩ ⟨⟨_, rfl, .refl _⟩, ⟨_, rfl, .refl _⟩, ⟨_, rfl, .refl _⟩, ⟨_, rfl, .refl _⟩, True.intro⟩ rfl⟩
    · refine Ok.exit ?_
      have hB1 := out_ret hB1 hy1
      cases hB1
      exact Wk.tab ⟨Le.refl _, True.intro⟩ ⟨⟨_, rfl, .refl _⟩, True.intro⟩ rfl
  refine Ok.seq ?_
  refine Ok.region Try.tok ?_
  refine Ok.wk (Wk.tab (L := [(6, (.o 84))]) (H' := [(84, .own 24 2 (List.map c_api_Span v1))]) ⟨Le.refl _, True.intro⟩ ⟨⟨_, rfl, .refl _⟩, True.intro⟩ rfl) ?_
  refine Ok.ret ?_
  cases h
  exact (.inr ⟨_, rfl, rfl⟩)
theorem w_span_asked_of__span_Add_1 {p_a : List api_Span} {p_b : List api_Span} {r : (List api_Span)} (h : span_asked_of__span_Add_1 p_a p_b = some r) : Pure Try.prog 64 [(.a [(.c (.func 74) [] [])]), (.s (List.map c_api_Span p_a)), (.s (List.map c_api_Span p_b))] (.s (List.map c_api_Span r)) := (wo_span_asked_of__span_Add_1 h).pure

theorem w_span_Add {p_a : List api_Span} {p_b : List api_Span} {r : (List api_Span)} (h : span_Add p_a p_b = some r) : Pure Try.prog 65 [(.s (List.map c_api_Span p_a)), (.s (List.map c_api_Span p_b))] (.s (List.map c_api_Span r)) := by
  refine pure_of_ok (n := 9) (c := (Try.f65.body.getD .skip)) Try.tok Try.func65 (by kernel_rfl) rfl rfl (Nat.le_of_ble_eq_true rfl) ?_
  unfold span_Add at h
  refine Ok.wk (Wk.tab (L := [(0, (.s (List.map c_api_Span p_a))), (1, (.s (List.map c_api_Span p_b)))]) (H' := []) ⟨Le.refl _, Le.refl _, True.intro⟩ True.intro rfl) ?_
  refine Ok.seq ?_
  refine Ok.region Try.tok ?_
  refine Ok.wk (Wk.tab (L := [(0, (.s (List.map c_api_Span p_a))), (1, (.s (List.map c_api_Span p_b)))]) (H' := []) ⟨Le.refl _, Le.refl _, True.intro⟩ True.intro rfl) ?_
  refine Ok.seq ?_
  refine Ok.region Try.tok ?_
  obtain ⟨x1, hx1, h⟩ := bindS h
  refine CallOk.call (w_span_asked_of__span_Add_1 hx1) (LeL.refl _) ?_
  refine Ok.wk (Wk.tab (L := [(4, (.s (List.map c_api_Span x1)))]) (H' := []) ⟨Le.refl _, True.intro⟩ True.intro rfl) ?_
  refine Ok.ret ?_
  cases h
  exact Fz.s

theorem w_span_Norm {p_l : List api_Span} {r : (List api_Span)} (h : span_Norm p_l = some r) : Pure Try.prog 45 [(.s (List.map c_api_Span p_l))] (.s (List.map c_api_Span r)) := by
  refine pure_of_ok (n := 5) (c := (Try.f45.body.getD .skip)) Try.tok Try.func45 (by kernel_rfl) rfl rfl (Nat.le_of_ble_eq_true rfl) ?_
  unfold span_Norm at h
  refine Ok.wk (Wk.tab (L := [(0, (.s (List.map c_api_Span p_l)))]) (H' := []) ⟨Le.refl _, True.intro⟩ True.intro rfl) ?_
  refine Ok.seq ?_
  refine Ok.region Try.tok ?_
  refine Ok.wk (Wk.tab (L := [(0, (.s (List.map c_api_Span p_l)))]) (H' := []) ⟨Le.refl _, True.intro⟩ True.intro rfl) ?_
  refine Ok.seq ?_
  refine Ok.region Try.tok ?_
  obtain ⟨x1, hx1, h⟩ := bindS h
  refine CallOk.call (w_span_Add hx1) (.cons (Le.refl _) (.cons (Le.nil) (.nil))) ?_
  refine Ok.wk (Wk.tab (L := [(2, (.s (List.map c_api_Span x1)))]) (H' := []) ⟨Le.refl _, True.intro⟩ True.intro rfl) ?_
  refine Ok.ret ?_
  cases h
  exact Fz.s

theorem w_span_Cut_1 {p_x : Bool} {p_y : Bool} {r : Bool} (h : span_Cut_1 p_x p_y = some r) : Pure Try.prog 63 [(vb p_x), (vb p_y)] (vb r) := by
  refine pure_of_ok (n := 10) (c := (Try.f63.body.getD .skip)) Try.tok Try.func63 (by kernel_rfl) rfl rfl (Nat.le_of_ble_eq_true rfl) ?_
  unfold span_Cut_1 at h
  refine Ok.wk (Wk.tab (L := [(0, (vb p_x)), (1, (vb p_y))]) (H' := []) ⟨Le.refl _, Le.refl _, True.intro⟩ True.intro rfl) ?_
  refine Ok.seq ?_
  refine Ok.region Try.tok ?_
  refine Ok.wk (Wk.tab (L := [(0, (vb p_x)), (1, (vb p_y))]) (H' := []) ⟨Le.refl _, Le.refl _, True.intro⟩ True.intro rfl) ?_
  obtain ⟨v1, hv1, h⟩ := bindS h
  refine Ok.seqw ⟨Cat.tab [(4, (vb v1))], []⟩ ?_ ?_
  · refine Ok.region Try.tok ?_
    obtain ⟨c1, hg1, hv1⟩ := bindS hv1
    refine Br.ite hg1 (fun hb hg1 => ?_) fun hb hg1 => ?_
    · cases hg1
      cases hv1
      exact Wk.tab ⟨Le.refl _, True.intro⟩ True.intro rfl
    · cases hg1
      cases hv1
      exact Wk.tab ⟨Le.refl _, True.intro⟩ True.intro rfl
  refine Ok.ret ?_
  cases h
  exact Fz.v
end Go.Proofs
