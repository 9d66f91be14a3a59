/- The walks of this seat beside the plain programs, part 1. No condition. -/
import Derived.Test.YtkbkfcehehofnaaXChunkRotsEn
import Derived.Test.YtkbkfcehehofnaaXChunkRotsWk0
namespace Go.Proofs
set_option linter.all false
open Go Go.Cat
variable [M : Mono]
set_option maxRecDepth 100000

theorem w_pack_ReadInts {p_b : List UInt8} {r : (List Int) × (List UInt8) × Int} (h : pack_ReadInts p_b = some r) : Pure Try.prog 76 [(.s (List.map cU8 p_b))] (.t [(.s (List.map Go.Cat.encI r.1)), (.s (List.map cU8 r.2.1)), (vi r.2.2)]) := by
  refine pure_of_ok (n := 41) (c := (Try.f76.body.getD .skip)) Try.tok Try.func76 (by kernel_rfl) rfl rfl (Nat.le_of_ble_eq_true rfl) ?_
  unfold pack_ReadInts at h
  refine Ok.wk (Wk.tab (L := [(0, (.s (List.map cU8 p_b)))]) (H' := []) ⟨Le.refl _, True.intro⟩ True.intro rfl) ?_
  refine Ok.seq ?_
  refine Ok.region Try.tok ?_
  refine Ok.wk (Wk.tab (L := [(0, (.s (List.map cU8 p_b)))]) (H' := []) ⟨Le.refl _, True.intro⟩ True.intro rfl) ?_
  refine Ok.seq ?_
  refine Ok.region Try.tok ?_
  refine Ok.wk (Wk.tab (L := [(5, (.b 10 0))]) (H' := [(10, .box [(.s (List.map cU8 p_b)), (vi (0))])]) ⟨Le.refl _, True.intro⟩ ⟨⟨_, rfl, .refl _⟩, True.intro⟩ rfl) ?_
  refine Ok.seq ?_
  refine Ok.region Try.tok ?_
  refine Ok.wk (Wk.tab (L := [(5, (.b 10 0)), (6, (.v (.slice none 0 0)))]) (H' := [(10, .box [(.s (List.map cU8 p_b)), (vi (0))])]) ⟨Le.refl _, Le.refl _, True.intro⟩ ⟨⟨_, rfl, .refl _⟩, True.intro⟩ rfl) ?_
  obtain ⟨v1, hv1, h⟩ := bindS h
  refine Ok.seqw ⟨Cat.tab [(5, (.b 10 0)), (6, (.o 19))], [(10, .box [(.s (List.map cU8 v1.1)), (vi v1.2.1)]), (19, .own 3 1 (List.map Go.Cat.encI v1.2.2))]⟩ ?_ ?_
  · refine Ok.seq ?_
    refine Ok.region Try.tok ?_
    obtain ⟨x1, hx1, hv1⟩ := bindS hv1
    refine CallOk.chgLe (id := 10) (w_pack_reader_count hx1) rfl (.box (.cons (Le.refl _) (.cons (Le.refl _) (.nil)))) rfl (.cons (Lr.b) (.nil)) ?_
    rintro _ _ ⟨rfl, rfl⟩
    refine Ok.wk (Wk.tab (L := [(5, (.b 10 0)), (6, (.v (.slice none 0 0))), (12, (vi x1.1)), (13, (vi (0)))]) (H' := [(10, .box [(.s (List.map cU8 x1.2.rest_.b_)), (vi x1.2.e_)])]) ⟨Le.refl _, Le.refl _, Le.refl _, Le.refl _, True.intro⟩ ⟨⟨_, rfl, .refl _⟩, True.intro⟩ rfl) ?_
    refine Ok.block ?_
    refine Ok.loop (fun (s1 : Int × (List UInt8) × Int × (List Int)) => ⟨Cat.tab [(5, (.b 10 0)), (6, (.o 19)), (12, (vi x1.1)), (13, (vi s1.1))], [(10, .box [(.s (List.map cU8 s1.2.1)), (vi s1.2.2.1)]), (19, .own 3 1 (List.map Go.Cat.encI s1.2.2.2))]⟩) (pack_ReadInts_B1 x1) (s0 := (0, x1.2.rest_.b_, x1.2.e_, [])) hv1 ((Wk.own0 (t := 6) (id := 19) (E := 3) (K := 1) rfl rfl).trans (Wk.tab ⟨Le.refl _, Le.refl _, Le.refl _, Le.refl _, True.intro⟩ ⟨⟨_, rfl, .refl _⟩, ⟨_, rfl, .refl _⟩, True.intro⟩ rfl)) ?_
    intro s1 y1 hB1 hy1
    unfold pack_ReadInts_B1 at hB1
    refine Ok.seq ?_
    refine Ok.region Try.tok ?_
    refine Ok.wk (Wk.tab (L := [(5, (.b 10 0)), (6, (.o 19)), (12, (vi x1.1)), (13, (vi s1.1)), (14, (vb ((decide (s1.1 < x1.1)))))]) (H' := [(10, .box [(.s (List.map cU8 s1.2.1)), (vi s1.2.2.1)]), (19, .own 3 1 (List.map Go.Cat.encI s1.2.2.2))]) ⟨Le.refl _, Le.refl _, Le.refl _, Le.refl _, Le.refl _, True.intro⟩ ⟨⟨_, rfl, .refl _⟩, ⟨_, rfl, .refl _⟩, True.intro⟩ rfl) ?_
    refine Ok.seq ?_
    refine Ok.cond (d := 14) (b := (decide (s1.1 < x1.1))) rfl hB1 (fun hb hB1 => ?_) fun hb hB1 => ?_
    · refine Ok.skip ?_
      refine Ok.seq ?_
      refine Ok.block ?_
      refine Ok.seq ?_
      refine Ok.region Try.tok ?_
      obtain ⟨x2, hx2, hB1⟩ := bindS hB1
      refine CallOk.chgLe (id := 10) (w_pack_reader_num hx2) rfl (.box (.cons (Le.refl _) (.cons (Le.refl _) (.nil)))) rfl (.cons (Lr.b) (.nil)) ?_
      rintro _ _ ⟨rfl, rfl⟩
      obtain ⟨hc1, hB1⟩ := chk_some hB1
      refine Or.inl ⟨rowsLen_map (f := Go.Cat.encI) (n := 1) (fun _ => rfl) ([x2.1]), app_b2 (f := Go.Cat.encI) (l := s1.2.2.2) (l' := ([x2.1])) hc1, _, (List.map_append (f := Go.Cat.encI) (l₁ := s1.2.2.2) (l₂ := ([x2.1]))).symm, ?_⟩
      refine Ok.wk (Wk.tab (L := [(5, (.b 10 0)), (6, (.o 19)), (12, (vi x1.1)), (13, (vi s1.1))]) (H' := [(10, .box [(.s (List.map cU8 x2.2.rest_.b_)), (vi x2.2.e_)]), (19, .own 3 1 (List.map Go.Cat.encI ((s1.2.2.2 ++ [x2.1]))))]) ⟨Le.refl _, Le.refl _, Le.refl _, Le.refl _, True.intro⟩ ⟨⟨_, rfl, .refl _⟩, ⟨_, rfl, .refl _⟩, True.intro⟩ rfl) ?_
      refine Ok.seq ?_
      refine Ok.region Try.tok ?_
      refine ⟨_, rfl, ?_⟩
      refine Ok.wk (Wk.tab (L := [(5, (.b 10 0)), (6, (.o 19)), (12, (vi x1.1)), (13, (vi s1.1)), (24, (vb ((x2.2.e_ != 0))))]) (H' := [(10, .box [(.s (List.map cU8 x2.2.rest_.b_)), (vi x2.2.e_)]), (19, .own 3 1 (List.map Go.Cat.encI ((s1.2.2.2 ++ [x2.1]))))]) ⟨Le.refl _, Le.refl _, Le.refl _, Le.refl _, Le.refl _, True.intro⟩ ⟨⟨_, rfl, .refl _⟩, ⟨_, rfl, .refl _⟩, True.intro⟩ rfl) ?_
      refine Ok.cond (d := 24) (b := (x2.2.e_ != 0)) rfl hB1 (fun hb hB1 => ?_) fun hb hB1 => ?_
      · refine Ok.exit ?_
        have hB1 := out_ret hB1 hy1
        cases hB1
        exact Wk.tab ⟨Le.refl _, Le.refl _, True.intro⟩ ⟨⟨_, rfl, .refl _⟩, ⟨_, rfl, .refl _⟩, True.intro⟩ rfl
      · refine Ok.skip ?_
        refine Ok.region Try.tok ?_
        obtain ⟨hc2, hB1⟩ := chk_some hB1
        refine (Or.inl ⟨hc2, ?_⟩)
        exact ⟨_, (Option.some.inj hB1).symm, Wk.tab ⟨Le.refl _, Le.refl _, Le.refl _, Le.refl _, True.intro⟩ ⟨⟨_, rfl, .refl _⟩, ⟨_, rfl, .refl _⟩, True.intro⟩ rfl⟩
    · refine Ok.exit ?_
      have hB1 := out_ret hB1 hy1
      cases hB1
      exact Wk.tab ⟨Le.refl _, Le.refl _, True.intro⟩ ⟨⟨_, rfl, .refl _⟩, ⟨_, rfl, .refl _⟩, True.intro⟩ rfl
  refine Ok.seq ?_
  refine Ok.seq ?_
  refine Ok.region Try.tok ?_
  refine ⟨_, rfl, ?_⟩
  refine Ok.wk (Wk.tab (L := [(5, (.b 10 0)), (6, (.o 19)), (30, (vb ((v1.2.1 != 0))))]) (H' := [(10, .box [(.s (List.map cU8 v1.1)), (vi v1.2.1)]), (19, .own 3 1 (List.map Go.Cat.encI v1.2.2))]) ⟨Le.refl _, Le.refl _, Le.refl _, True.intro⟩ ⟨⟨_, rfl, .refl _⟩, ⟨_, rfl, .refl _⟩, True.intro⟩ rfl) ?_
  refine Ok.cond (d := 30) (b := (v1.2.1 != 0)) rfl h (fun hb h => ?_) fun hb h => ?_
  · refine Ok.seq ?_
    refine Ok.draw (m := 7) Try.tok Try.mixed (by kernel_rfl) ?_
    refine ⟨_, rfl, ⟨_, rfl, ⟨_, rfl, ⟨_, ⟨_, rfl, rfl⟩, ⟨_, rfl, ⟨_, rfl, ⟨_, rfl, ?_⟩⟩⟩⟩⟩⟩⟩
    refine Ok.wk (Wk.tab (L := [(2, (.v (.slice none 0 0))), (3, (.v (.slice none 0 0))), (4, (vi v1.2.1))]) (H' := []) ⟨Le.refl _, Le.refl _, Le.refl _, True.intro⟩ True.intro rfl) ?_
    refine Ok.ret ?_
    cases h
    exact (Fz.t (.cons Fz.nil (.cons Fz.nil (.cons Fz.v .nil))))
  · refine Ok.skip ?_
    refine Ok.seq ?_
    refine Ok.draw (m := 9) Try.tok Try.mixed (by kernel_rfl) ?_
    refine ⟨_, rfl, ⟨_, rfl, ⟨_, rfl, ⟨_, rfl, ⟨_, rfl, ⟨_, ⟨_, rfl, rfl⟩, ⟨_, rfl, ⟨_, rfl, ⟨_, rfl, ?_⟩⟩⟩⟩⟩⟩⟩⟩⟩
    refine Ok.wk (Wk.tab (L := [(2, (.o 19)), (3, (.s (List.map cU8 v1.1))), (4, (vi (0)))]) (H' := [(19, .own 3 1 (List.map Go.Cat.encI v1.2.2))]) ⟨Le.refl _, Le.refl _, Le.refl _, True.intro⟩ ⟨⟨_, rfl, .refl _⟩, True.intro⟩ rfl) ?_
    refine Ok.ret ?_
    cases h
    exact (Fz.t (.cons (Fz.o rfl) (.cons Fz.s (.cons Fz.v .nil))))

theorem w_chunk_take_int__pack_ReadInts {self : chunk_reader} {r : ((List Int)) × chunk_reader} (h : chunk_take_int__pack_ReadInts self = some r) : PChg Try.prog 75 [(.b 1000 0), (.c (.func 76) [] [])] (.box [(.s (List.map cU8 self.b_)), (vb self.bad_)]) (fun x c => x = (.s (List.map Go.Cat.encI r.1)) ∧ c = .box [(.s (List.map cU8 r.2.b_)), (vb r.2.bad_)]) := by
  refine pchg_of_ok (n := 36) (c := (Try.f75.body.getD .skip)) Try.tok Try.func75 (by kernel_rfl) rfl rfl (Nat.le_of_ble_eq_true rfl) ?_
  unfold chunk_take_int__pack_ReadInts at h
  refine Ok.wk (Wk.tab (L := [(0, (.b 1000 0)), (1, (.c (.func 76) [] []))]) (H' := [(1000, .box [(.s (List.map cU8 self.b_)), (vb self.bad_)])]) ⟨Le.refl _, Le.refl _, True.intro⟩ ⟨⟨_, rfl, .refl _⟩, True.intro⟩ rfl) ?_
  refine Ok.seq ?_
  refine Ok.region Try.tok ?_
  refine Ok.wk (Wk.tab (L := [(0, (.b 1000 0)), (1, (.c (.func 76) [] []))]) (H' := [(1000, .box [(.s (List.map cU8 self.b_)), (vb self.bad_)])]) ⟨Le.refl _, Le.refl _, True.intro⟩ ⟨⟨_, rfl, .refl _⟩, True.intro⟩ rfl) ?_
  refine Ok.seq ?_
  refine Ok.region Try.tok ?_
  obtain ⟨x1, hx1, h⟩ := bindS h
  refine ⟨_, rfl, ?_⟩
  refine CallOk.call (w_pack_ReadInts hx1) (LeL.refl _) ?_
  refine Ok.wk (Wk.tab (L := [(0, (.b 1000 0)), (5, (.s (List.map Go.Cat.encI x1.1))), (6, (.s (List.map cU8 x1.2.1))), (7, (vi x1.2.2))]) (H' := [(1000, .box [(.s (List.map cU8 self.b_)), (vb self.bad_)])]) ⟨Le.refl _, Le.refl _, Le.refl _, Le.refl _, True.intro⟩ ⟨⟨_, rfl, .refl _⟩, True.intro⟩ rfl) ?_
  refine Ok.seq ?_
  obtain ⟨v1, hv1, h⟩ := bindS h
  refine Ok.seqw ⟨Cat.tab [(0, (.b 1000 0)), (5, (.s (List.map Go.Cat.encI x1.1))), (6, (.s (List.map cU8 x1.2.1))), (26, (vb v1))], [(1000, .box [(.s (List.map cU8 self.b_)), (vb self.bad_)])]⟩ ?_ ?_
  · refine Ok.region Try.tok ?_
    refine ⟨_, rfl, ?_⟩
    obtain ⟨c1, hg1, hv1⟩ := bindS hv1
    refine Br.itf hg1 (fun hb hg1 => ?_) fun hb hg1 => ?_
    · cases hg1
      cases hv1
      exact Wk.tab ⟨Le.refl _, Le.refl _, Le.refl _, Le.refl _, True.intro⟩ ⟨⟨_, rfl, .refl _⟩, True.intro⟩ rfl
    · cases hg1
      cases hv1
      exact Wk.tab ⟨Le.refl _, Le.refl _, Le.refl _, Le.refl _, True.intro⟩ ⟨⟨_, rfl, .refl _⟩, True.intro⟩ rfl
  refine Ok.cond (d := 26) (b := v1) rfl h (fun hb h => ?_) fun hb h => ?_
  · refine Ok.seq ?_
    refine Ok.region Try.tok ?_
    refine ⟨_, rfl, ?_⟩
    refine Ok.wk (Wk.tab (L := []) (H' := [(1000, .box [(.s (List.map cU8 self.b_)), (vb true)])]) True.intro ⟨⟨_, rfl, .refl _⟩, True.intro⟩ rfl) ?_
    refine Ok.seq ?_
    refine Ok.region Try.tok ?_
    refine Ok.wk (Wk.tab (L := [(8, (.v (.slice none 0 0)))]) (H' := [(1000, .box [(.s (List.map cU8 self.b_)), (vb true)])]) ⟨Le.refl _, True.intro⟩ ⟨⟨_, rfl, .refl _⟩, True.intro⟩ rfl) ?_
    refine Ok.seq ?_
    refine Ok.region Try.tok ?_
    refine Ok.wk (Wk.tab (L := [(4, (.v (.slice none 0 0)))]) (H' := [(1000, .box [(.s (List.map cU8 self.b_)), (vb true)])]) ⟨Le.refl _, True.intro⟩ ⟨⟨_, rfl, .refl _⟩, True.intro⟩ rfl) ?_
    refine Ok.ret ?_
    cases h
    exact ⟨_, _, ⟨rfl, rfl⟩, rfl, rfl, Fz.nil⟩
  · refine Ok.skip ?_
    refine Ok.seq ?_
    refine Ok.region Try.tok ?_
    refine ⟨_, rfl, ?_⟩
    refine Ok.wk (Wk.tab (L := [(5, (.s (List.map Go.Cat.encI x1.1)))]) (H' := [(1000, .box [(.s (List.map cU8 x1.2.1)), (vb self.bad_)])]) ⟨Le.refl _, True.intro⟩ ⟨⟨_, rfl, .refl _⟩, True.intro⟩ rfl) ?_
    refine Ok.seq ?_
    refine Ok.region Try.tok ?_
    refine Ok.wk (Wk.tab (L := [(4, (.s (List.map Go.Cat.encI x1.1)))]) (H' := [(1000, .box [(.s (List.map cU8 x1.2.1)), (vb self.bad_)])]) ⟨Le.refl _, True.intro⟩ ⟨⟨_, rfl, .refl _⟩, True.intro⟩ rfl) ?_
    refine Ok.ret ?_
    cases h
    exact ⟨_, _, ⟨rfl, rfl⟩, rfl, rfl, Fz.s⟩

theorem w_chunk_reader_copy {self : chunk_reader} {r : (api_Copy × Bool) × chunk_reader} (h : chunk_reader_copy self = some r) : PChg Try.prog 41 [(.b 1000 0)] (.box [(.s (List.map cU8 self.b_)), (vb self.bad_)]) (fun x c => x = (.t [(.a [(vi r.1.1.Id), (vi r.1.1.Ver), (.s (List.map cU8 r.1.1.Data)), (.s (List.map Go.Cat.encI r.1.1.Sums))]), (vb r.1.2)]) ∧ c = .box [(.s (List.map cU8 r.2.b_)), (vb r.2.bad_)]) := by
  refine pchg_of_ok (n := 34) (c := (Try.f41.body.getD .skip)) Try.tok Try.func41 (by kernel_rfl) rfl rfl (Nat.le_of_ble_eq_true rfl) ?_
  unfold chunk_reader_copy at h
  refine Ok.wk (Wk.tab (L := [(0, (.b 1000 0))]) (H' := [(1000, .box [(.s (List.map cU8 self.b_)), (vb self.bad_)])]) ⟨Le.refl _, True.intro⟩ ⟨⟨_, rfl, .refl _⟩, True.intro⟩ rfl) ?_
  refine Ok.seq ?_
  refine Ok.region Try.tok ?_
  refine Ok.wk (Wk.tab (L := [(0, (.b 1000 0)), (2, (.b 2 0))]) (H' := [(1000, .box [(.s (List.map cU8 self.b_)), (vb self.bad_)]), (2, .box [(vi (0)), (vi (0)), (.v (.slice none 0 0)), (.v (.slice none 0 0))])]) ⟨Le.refl _, Le.refl _, True.intro⟩ ⟨⟨_, rfl, .refl _⟩, ⟨_, rfl, .refl _⟩, True.intro⟩ rfl) ?_
  refine Ok.seq ?_
  refine Ok.region Try.tok ?_
  refine Ok.wk (Wk.tab (L := [(0, (.b 1000 0)), (2, (.b 2 0)), (4, (.c (.func 72) [(.b 1000 0)] []))]) (H' := [(1000, .box [(.s (List.map cU8 self.b_)), (vb self.bad_)]), (2, .box [(vi (0)), (vi (0)), (.v (.slice none 0 0)), (.v (.slice none 0 0))])]) ⟨Le.refl _, Le.refl _, Le.refl _, True.intro⟩ ⟨⟨_, rfl, .refl _⟩, ⟨_, rfl, .refl _⟩, True.intro⟩ rfl) ?_
  refine Ok.seq ?_
  refine Ok.region Try.tok ?_
  obtain ⟨x1, hx1, h⟩ := bindS h
  refine CallOk.chgLe (id := 1000) (w_chunk_reader_int hx1) rfl (.box (.cons (Le.refl _) (.cons (Le.refl _) (.nil)))) rfl (.cons (Lr.b) (.nil)) ?_
  rintro _ _ ⟨rfl, rfl⟩
  obtain ⟨x2, hx2, h⟩ := bindS h
  refine CallOk.chgLe (id := 1000) (w_chunk_reader_int hx2) rfl (.box (.cons (Le.refl _) (.cons (Le.refl _) (.nil)))) rfl (.cons (Lr.b) (.nil)) ?_
  rintro _ _ ⟨rfl, rfl⟩
  refine ⟨_, rfl, ?_⟩
  refine Ok.wk (Wk.tab (L := [(0, (.b 1000 0)), (2, (.b 2 0)), (5, (.b 5 0))]) (H' := [(1000, .box [(.s (List.map cU8 x2.2.b_)), (vb x2.2.bad_)]), (2, .box [(vi (0)), (vi (0)), (.v (.slice none 0 0)), (.v (.slice none 0 0))]), (5, .box [(vi x1.1), (vi x2.1), (.v (.slice none 0 0)), (.v (.slice none 0 0))])]) ⟨Le.refl _, Le.refl _, Le.refl _, True.intro⟩ ⟨⟨_, rfl, .refl _⟩, ⟨_, rfl, .refl _⟩, ⟨_, rfl, .refl _⟩, True.intro⟩ rfl) ?_
  refine Ok.seq ?_
  refine Ok.region Try.tok ?_
  obtain ⟨x3, hx3, h⟩ := bindS h
  refine CallOk.chgLe (id := 1000) (w_chunk_take_string__pack_ReadStr hx3) rfl (.box (.cons (Le.refl _) (.cons (Le.refl _) (.nil)))) rfl (.cons (Lr.b) (.cons (Lr.imm rfl) (.nil))) ?_
  rintro _ _ ⟨rfl, rfl⟩
  obtain ⟨hc1, h⟩ := chk_some h
  refine ⟨str_max hc1, ⟨_, rfl, ?_⟩⟩
  refine Ok.wk (Wk.tab (L := [(0, (.b 1000 0)), (2, (.b 2 0)), (5, (.b 5 0))]) (H' := [(1000, .box [(.s (List.map cU8 x3.2.b_)), (vb x3.2.bad_)]), (2, .box [(vi (0)), (vi (0)), (.v (.slice none 0 0)), (.v (.slice none 0 0))]), (5, .box [(vi x1.1), (vi x2.1), (.s (List.map cU8 x3.1)), (.v (.slice none 0 0))])]) ⟨Le.refl _, Le.refl _, Le.refl _, True.intro⟩ ⟨⟨_, rfl, .refl _⟩, ⟨_, rfl, .refl _⟩, ⟨_, rfl, .refl _⟩, True.intro⟩ rfl) ?_
  refine Ok.seq ?_
  refine Ok.region Try.tok ?_
  obtain ⟨x4, hx4, h⟩ := bindS h
  refine CallOk.chgLe (id := 1000) (w_chunk_take_int__pack_ReadInts hx4) rfl (.box (.cons (Le.refl _) (.cons (Le.refl _) (.nil)))) rfl (.cons (Lr.b) (.cons (Lr.imm rfl) (.nil))) ?_
  rintro _ _ ⟨rfl, rfl⟩
  refine ⟨_, rfl, ?_⟩
  refine Ok.wk (Wk.tab (L := [(0, (.b 1000 0)), (2, (.b 2 0)), (5, (.b 5 0))]) (H' := [(1000, .box [(.s (List.map cU8 x4.2.b_)), (vb x4.2.bad_)]), (2, .box [(vi (0)), (vi (0)), (.v (.slice none 0 0)), (.v (.slice none 0 0))]), (5, .box [(vi x1.1), (vi x2.1), (.s (List.map cU8 x3.1)), (.s (List.map Go.Cat.encI x4.1))])]) ⟨Le.refl _, Le.refl _, Le.refl _, True.intro⟩ ⟨⟨_, rfl, .refl _⟩, ⟨_, rfl, .refl _⟩, ⟨_, rfl, .refl _⟩, True.intro⟩ rfl) ?_
  obtain ⟨v1, hv1, h⟩ := bindS h
  refine Ok.seqw ⟨Cat.tab [(2, (.b 2 0)), (3, (vb v1))], [(2, .box [(vi x1.1), (vi x2.1), (.s (List.map cU8 x3.1)), (.s (List.map Go.Cat.encI x4.1))]), (1000, .box [(.s (List.map cU8 x4.2.b_)), (vb x4.2.bad_)])]⟩ ?_ ?_
  · refine Ok.draw2 (m := 14) (late := [7, 8, 9, 10, 11, 12, 13]) Try.tok Try.mixed (by kernel_rfl) ?_
    refine ⟨_, ⟨_, rfl, rfl⟩, ⟨_, rfl, ⟨_, rfl, ⟨_, rfl, ⟨_, ⟨_, rfl, rfl⟩, ⟨_, rfl, ⟨_, rfl, ?_⟩⟩⟩⟩⟩⟩⟩
    obtain ⟨c1, hg1, hv1⟩ := bindS hv1
    refine Br.ite hg1 (fun hb hg1 => ?_) fun hb hg1 => ?_
    · refine ⟨_, rfl, ⟨_, rfl, ⟨_, rfl, ⟨_, ⟨_, rfl, rfl⟩, ⟨_, ⟨_, List.length_map _, fun _ => rfl⟩, ⟨_, rfl, ?_⟩⟩⟩⟩⟩⟩
      cases hg1
      refine ⟨_, rfl, ?_⟩
      refine ⟨_, rfl, ⟨⟨⟨_, rfl, _, rfl, .inl ⟨rfl, rfl⟩⟩, ⟨_, rfl, _, rfl, .inl ⟨rfl, rfl⟩⟩, ⟨_, rfl, _, rfl, .inl ⟨rfl, rfl⟩⟩, ⟨_, rfl, _, rfl, .inl ⟨rfl, ⟨_, rfl, rfl⟩⟩⟩, ⟨_, rfl, _, rfl, .inl ⟨rfl, ⟨_, List.length_map _, fun _ => rfl⟩⟩⟩, ⟨_, rfl, _, rfl, .inl ⟨rfl, rfl⟩⟩, ⟨_, rfl, rfl⟩, True.intro⟩, ?_⟩⟩
      cases hv1
      exact Wk.tab ⟨Le.refl _, Le.refl _, True.intro⟩ ⟨⟨_, rfl, .refl _⟩, ⟨_, rfl, .refl _⟩, True.intro⟩ rfl
    · cases hg1
      refine ⟨_, rfl, ?_⟩
      refine ⟨_, rfl, ⟨⟨⟨_, rfl, _, rfl, .inr (.inl ⟨rfl, rfl⟩)⟩, ⟨_, rfl, _, rfl, .inr (.inl ⟨rfl, rfl⟩)⟩, ⟨_, rfl, _, rfl, .inr (.inl ⟨rfl, rfl⟩)⟩, ⟨_, rfl, _, rfl, .inr (.inl ⟨rfl, rfl⟩)⟩, ⟨_, rfl, _, rfl, .inr (.inl ⟨rfl, rfl⟩)⟩, ⟨_, rfl, _, rfl, .inr (.inl ⟨rfl, rfl⟩)⟩, ⟨_, rfl, rfl⟩, True.intro⟩, ?_⟩⟩
      cases hv1
      exact Wk.tab ⟨Le.refl _, Le.refl _, True.intro⟩ ⟨⟨_, rfl, .refl _⟩, ⟨_, rfl, .refl _⟩, True.intro⟩ rfl
  refine Ok.ret ?_
  cases h
  exact ⟨_, rfl, ⟨_, _, ⟨rfl, rfl⟩, rfl, rfl, (Fz.t (.cons (Fz.imm rfl) (.cons Fz.v .nil)))⟩⟩

theorem w_bytes_Equal {p_a : List UInt8} {p_b : List UInt8} {r : Bool} (h : bytes_Equal p_a p_b = some r) : Pure Try.prog 42 [(.s (List.map cU8 p_a)), (.s (List.map cU8 p_b))] (vb r) := by
  refine pure_of_ok (n := 10) (c := (Try.f42.body.getD .skip)) Try.tok Try.func42 (by kernel_rfl) rfl rfl (Nat.le_of_ble_eq_true rfl) ?_
  unfold bytes_Equal at h
  refine Ok.wk (Wk.tab (L := [(0, (.s (List.map cU8 p_a))), (1, (.s (List.map cU8 p_b)))]) (H' := []) ⟨Le.refl _, Le.refl _, True.intro⟩ True.intro rfl) ?_
  refine Ok.seq ?_
  refine Ok.region Try.tok ?_
  refine Ok.wk (Wk.tab (L := [(0, (.s (List.map cU8 p_a))), (1, (.s (List.map cU8 p_b)))]) (H' := []) ⟨Le.refl _, Le.refl _, True.intro⟩ True.intro rfl) ?_
  refine Ok.seq ?_
  refine Ok.region Try.tok ?_
  refine ⟨_, rfl, ⟨_, rfl, ⟨_, str_eql _ _, ?_⟩⟩⟩
  refine Ok.wk (Wk.tab (L := [(4, (vb ((p_a == p_b))))]) (H' := []) ⟨Le.refl _, True.intro⟩ True.intro rfl) ?_
  refine Ok.ret ?_
  cases h
  exact Fz.v

theorem w_chunk_Get {p_d : api_Disk} {p_id : Int} {r : api_Copy × Int} (h : chunk_Get p_d p_id = some r) : Pure Try.prog 14 [(.a [(.s (List.map c_api_Page p_d.Synced)), (.s (List.map c_api_Page p_d.Loose)), (vb p_d.Down)]), (vi p_id)] (.t [(.a [(vi r.1.Id), (vi r.1.Ver), (.s (List.map cU8 r.1.Data)), (.s (List.map Go.Cat.encI r.1.Sums))]), (vi r.2)]) := by
  refine pure_of_ok (n := 61) (c := (Try.f14.body.getD .skip)) Try.tok Try.func14 (by kernel_rfl) rfl rfl (Nat.le_of_ble_eq_true rfl) ?_
  unfold chunk_Get at h
  refine Ok.wk (Wk.tab (L := [(0, (.a [(.s (List.map c_api_Page p_d.Synced)), (.s (List.map c_api_Page p_d.Loose)), (vb p_d.Down)])), (1, (vi p_id))]) (H' := []) ⟨Le.refl _, Le.refl _, True.intro⟩ True.intro rfl) ?_
  refine Ok.seq ?_
  refine Ok.region Try.tok ?_
  refine Ok.wk (Wk.tab (L := [(1, (vi p_id)), (2, (.b 2 0)), (4, (.b 4 0))]) (H' := [(2, .box [(.s (List.map c_api_Page p_d.Synced)), (.s (List.map c_api_Page p_d.Loose)), (vb p_d.Down)]), (4, .box [(vi (0)), (vi (0)), (.v (.slice none 0 0)), (.v (.slice none 0 0))])]) ⟨Le.refl _, Le.refl _, Le.refl _, True.intro⟩ ⟨⟨_, rfl, .refl _⟩, ⟨_, rfl, .refl _⟩, True.intro⟩ rfl) ?_
  refine Ok.seq ?_
  refine Ok.region Try.tok ?_
  obtain ⟨x1, hx1, h⟩ := bindS h
  refine ⟨_, rfl, ?_⟩
  refine CallOk.call (w_chunk_there hx1) (LeL.refl _) ?_
  refine Ok.wk (Wk.tab (L := [(1, (vi p_id)), (4, (.b 4 0)), (6, (.s (List.map cU8 x1.1))), (7, (vi x1.2))]) (H' := [(4, .box [(vi (0)), (vi (0)), (.v (.slice none 0 0)), (.v (.slice none 0 0))])]) ⟨Le.refl _, Le.refl _, Le.refl _, Le.refl _, True.intro⟩ ⟨⟨_, rfl, .refl _⟩, True.intro⟩ rfl) ?_
  refine Ok.seq ?_
  refine Ok.block ?_
  refine Ok.seq ?_
  refine Ok.region Try.tok ?_
  refine Ok.wk (Wk.tab (L := [(1, (vi p_id)), (4, (.b 4 0)), (6, (.s (List.map cU8 x1.1))), (7, (vi x1.2)), (17, (vb ((x1.2 != 0))))]) (H' := [(4, .box [(vi (0)), (vi (0)), (.v (.slice none 0 0)), (.v (.slice none 0 0))])]) ⟨Le.refl _, Le.refl _, Le.refl _, Le.refl _, Le.refl _, True.intro⟩ ⟨⟨_, rfl, .refl _⟩, True.intro⟩ rfl) ?_
  refine Ok.cond (d := 17) (b := (x1.2 != 0)) rfl h (fun hb h => ?_) fun hb h => ?_
  · refine Ok.seq ?_
    refine Ok.region Try.tok ?_
    refine ⟨_, rfl, ?_⟩
    refine Ok.wk (Wk.tab (L := [(4, (.b 4 0)), (5, (vi x1.2))]) (H' := [(4, .box [(vi (0)), (vi (0)), (.v (.slice none 0 0)), (.v (.slice none 0 0))])]) ⟨Le.refl _, Le.refl _, True.intro⟩ ⟨⟨_, rfl, .refl _⟩, True.intro⟩ rfl) ?_
    refine Ok.ret ?_
    cases h
    exact ⟨_, rfl, (Fz.t (.cons (Fz.a (.cons Fz.v (.cons Fz.v (.cons Fz.nil (.cons Fz.nil .nil))))) (.cons Fz.v .nil)))⟩
  · refine Ok.seq ?_
    refine Ok.region Try.tok ?_
    refine ⟨_, List.length_map _, fun _ => ?_⟩
    refine Ok.wk (Wk.tab (L := [(1, (vi p_id)), (4, (.b 4 0)), (6, (.s (List.map cU8 x1.1))), (22, (vb ((decide ((x1.1.length : Int) < 4)))))]) (H' := [(4, .box [(vi (0)), (vi (0)), (.v (.slice none 0 0)), (.v (.slice none 0 0))])]) ⟨Le.refl _, Le.refl _, Le.refl _, Le.refl _, True.intro⟩ ⟨⟨_, rfl, .refl _⟩, True.intro⟩ rfl) ?_
    refine Ok.cond (d := 22) (b := (decide ((x1.1.length : Int) < 4))) rfl h (fun hb h => ?_) fun hb h => ?_
    · refine Ok.seq ?_
      refine Ok.region Try.tok ?_
      refine ⟨_, rfl, ?_⟩
      refine Ok.wk (Wk.tab (L := [(4, (.b 4 0)), (5, (vi (251)))]) (H' := [(4, .box [(vi (0)), (vi (0)), (.v (.slice none 0 0)), (.v (.slice none 0 0))])]) ⟨Le.refl _, Le.refl _, True.intro⟩ ⟨⟨_, rfl, .refl _⟩, True.intro⟩ rfl) ?_
      refine Ok.ret ?_
      cases h
      exact ⟨_, rfl, (Fz.t (.cons (Fz.a (.cons Fz.v (.cons Fz.v (.cons Fz.nil (.cons Fz.nil .nil))))) (.cons Fz.v .nil)))⟩
    · refine Ok.skip ?_
      refine Ok.seq ?_
      refine Ok.region Try.tok ?_
      obtain ⟨hc1, h⟩ := chk_some h
      obtain ⟨hc2, h⟩ := chk_some h
      refine ⟨_, List.length_map _, fun _ => (Or.inl ⟨hc1, ⟨_, sl_nat hc2.1, Nat.zero_le _, sl_len hc2, rowsK (f := cU8) (K := 1) (fun _ => rfl) x1.1, _, sl_take _ _ _, ?_⟩⟩)⟩
      refine Ok.wk (Wk.tab (L := [(1, (vi p_id)), (4, (.b 4 0)), (6, (.s (List.map cU8 x1.1))), (8, (.b 33 0))]) (H' := [(4, .box [(vi (0)), (vi (0)), (.v (.slice none 0 0)), (.v (.slice none 0 0))]), (33, .box [(.s (List.map cU8 ((x1.1.take (((x1.1.length : Int) - 4)).toNat)))), (vb false)])]) ⟨Le.refl _, Le.refl _, Le.refl _, Le.refl _, True.intro⟩ ⟨⟨_, rfl, .refl _⟩, ⟨_, rfl, .refl _⟩, True.intro⟩ rfl) ?_
      refine Ok.seq ?_
      refine Ok.region Try.tok ?_
      obtain ⟨x2, hx2, h⟩ := bindS h
      refine CallOk.chgLe (id := 33) (w_chunk_reader_copy hx2) rfl (.box (.cons (Le.refl _) (.cons (Le.refl _) (.nil)))) rfl (.cons (Lr.b) (.nil)) ?_
      rintro _ _ ⟨rfl, rfl⟩
      refine ⟨_, rfl, ?_⟩
      refine Ok.wk (Wk.tab (L := [(1, (vi p_id)), (4, (.b 4 0)), (6, (.s (List.map cU8 x1.1))), (9, (.b 9 0)), (10, (vb x2.1.2))]) (H' := [(4, .box [(vi (0)), (vi (0)), (.v (.slice none 0 0)), (.v (.slice none 0 0))]), (9, .box [(vi x2.1.1.Id), (vi x2.1.1.Ver), (.s (List.map cU8 x2.1.1.Data)), (.s (List.map Go.Cat.encI x2.1.1.Sums))])]) ⟨Le.refl _, Le.refl _, Le.refl _, Le.refl _, Le.refl _, True.intro⟩ ⟨⟨_, rfl, .refl _⟩, ⟨_, rfl, .refl _⟩, True.intro⟩ rfl) ?_
      refine Ok.seq ?_
      obtain ⟨v1, hv1, h⟩ := bindS h
      refine Ok.seqw ⟨Cat.tab [(4, (.b 4 0)), (9, (.b 9 0)), (58, (vb v1))], [(4, .box [(vi (0)), (vi (0)), (.v (.slice none 0 0)), (.v (.slice none 0 0))]), (9, .box [(vi x2.1.1.Id), (vi x2.1.1.Ver), (.s (List.map cU8 x2.1.1.Data)), (.s (List.map Go.Cat.encI x2.1.1.Sums))])]⟩ ?_ ?_
      · refine Ok.region Try.tok ?_
        obtain ⟨c1, hg1, hv1⟩ := bindS hv1
        refine Br.itf hg1 (fun hb hg1 => ?_) fun hb hg1 => ?_
        · cases hg1
          obtain ⟨c2, hg2, hv1⟩ := bindS hv1
          replace hg2 := iteT hg2
          cases hg2
          obtain ⟨c3, hg3, hv1⟩ := bindS hv1
          replace hg3 := iteT hg3
          cases hg3
          cases hv1
          exact Wk.tab ⟨Le.refl _, Le.refl _, Le.refl _, True.intro⟩ ⟨⟨_, rfl, .refl _⟩, ⟨_, rfl, .refl _⟩, True.intro⟩ rfl
        · obtain ⟨x3, hx3, hg1⟩ := bindS hg1
          refine ⟨_, rfl, ?_⟩
          refine CallOk.call (w_chunk_may hx3) (LeL.refl _) ?_
          cases hg1
          obtain ⟨c2, hg4, hv1⟩ := bindS hv1
          refine Br.itf hg4 (fun hb hg4 => ?_) fun hb hg4 => ?_
          · cases hg4
            obtain ⟨c3, hg5, hv1⟩ := bindS hv1
            replace hg5 := iteT hg5
            cases hg5
            cases hv1
            exact Wk.tab ⟨Le.refl _, Le.refl _, Le.refl _, True.intro⟩ ⟨⟨_, rfl, .refl _⟩, ⟨_, rfl, .refl _⟩, True.intro⟩ rfl
          · refine ⟨_, rfl, ?_⟩
            cases hg4
            obtain ⟨c3, hg6, hv1⟩ := bindS hv1
            refine Br.itf hg6 (fun hb hg6 => ?_) fun hb hg6 => ?_
            · cases hg6
              cases hv1
              exact Wk.tab ⟨Le.refl _, Le.refl _, Le.refl _, True.intro⟩ ⟨⟨_, rfl, .refl _⟩, ⟨_, rfl, .refl _⟩, True.intro⟩ rfl
            · obtain ⟨x4, hx4, hg6⟩ := bindS hg6
              refine ⟨_, rfl, ?_⟩
              refine CallOk.call (w_chunk_page hx4) (LeL.refl _) ?_
              obtain ⟨x5, hx5, hg6⟩ := bindS hg6
              refine CallOk.call (w_bytes_Equal hx5) (LeL.refl _) ?_
              cases hg6
              cases hv1
              exact Wk.tab ⟨Le.refl _, Le.refl _, Le.refl _, True.intro⟩ ⟨⟨_, rfl, .refl _⟩, ⟨_, rfl, .refl _⟩, True.intro⟩ rfl
      refine Ok.cond (d := 58) (b := v1) rfl h (fun hb h => ?_) fun hb h => ?_
      · refine Ok.seq ?_
        refine Ok.region Try.tok ?_
        refine ⟨_, rfl, ?_⟩
        refine Ok.wk (Wk.tab (L := [(4, (.b 4 0)), (5, (vi (251)))]) (H' := [(4, .box [(vi (0)), (vi (0)), (.v (.slice none 0 0)), (.v (.slice none 0 0))])]) ⟨Le.refl _, Le.refl _, True.intro⟩ ⟨⟨_, rfl, .refl _⟩, True.intro⟩ rfl) ?_
        refine Ok.ret ?_
        cases h
        exact ⟨_, rfl, (Fz.t (.cons (Fz.a (.cons Fz.v (.cons Fz.v (.cons Fz.nil (.cons Fz.nil .nil))))) (.cons Fz.v .nil)))⟩
      · refine Ok.skip ?_
        refine Ok.seq ?_
        refine Ok.region Try.tok ?_
        refine ⟨_, rfl, ⟨_, rfl, ?_⟩⟩
        refine Ok.wk (Wk.tab (L := [(4, (.b 4 0)), (5, (vi (0)))]) (H' := [(4, .box [(vi x2.1.1.Id), (vi x2.1.1.Ver), (.s (List.map cU8 x2.1.1.Data)), (.s (List.map Go.Cat.encI x2.1.1.Sums))])]) ⟨Le.refl _, Le.refl _, True.intro⟩ ⟨⟨_, rfl, .refl _⟩, True.intro⟩ rfl) ?_
        refine Ok.ret ?_
        cases h
        exact ⟨_, rfl, (Fz.t (.cons (Fz.imm rfl) (.cons Fz.v .nil)))⟩

theorem w_chunk_Lose {p_d : api_Disk} {p_id : Int} {r : api_Disk × Int} (h : chunk_Lose p_d p_id = some r) : Pure Try.prog 16 [(.a [(.s (List.map c_api_Page p_d.Synced)), (.s (List.map c_api_Page p_d.Loose)), (vb p_d.Down)]), (vi p_id)] (.t [(.a [(.s (List.map c_api_Page r.1.Synced)), (.s (List.map c_api_Page r.1.Loose)), (vb r.1.Down)]), (vi r.2)]) := by
  refine pure_of_ok (n := 23) (c := (Try.f16.body.getD .skip)) Try.tok Try.func16 (by kernel_rfl) rfl rfl (Nat.le_of_ble_eq_true rfl) ?_
  unfold chunk_Lose at h
  refine Ok.wk (Wk.tab (L := [(0, (.a [(.s (List.map c_api_Page p_d.Synced)), (.s (List.map c_api_Page p_d.Loose)), (vb p_d.Down)])), (1, (vi p_id))]) (H' := []) ⟨Le.refl _, Le.refl _, True.intro⟩ True.intro rfl) ?_
  refine Ok.seq ?_
  refine Ok.region Try.tok ?_
  refine Ok.wk (Wk.tab (L := [(1, (vi p_id)), (2, (.b 2 0)), (4, (.b 4 0))]) (H' := [(2, .box [(.s (List.map c_api_Page p_d.Synced)), (.s (List.map c_api_Page p_d.Loose)), (vb p_d.Down)]), (4, .box [(.v (.slice none 0 0)), (.v (.slice none 0 0)), (vb false)])]) ⟨Le.refl _, Le.refl _, Le.refl _, True.intro⟩ ⟨⟨_, rfl, .refl _⟩, ⟨_, rfl, .refl _⟩, True.intro⟩ rfl) ?_
  refine Ok.seq ?_
  refine Ok.seq ?_
  refine Ok.region Try.tok ?_
  obtain ⟨x1, hx1, h⟩ := bindS h
  refine ⟨_, rfl, ?_⟩
  refine CallOk.call (w_chunk_there hx1) (LeL.refl _) ?_
  refine Ok.wk (Wk.tab (L := [(1, (vi p_id)), (2, (.b 2 0)), (4, (.b 4 0)), (7, (vi x1.2))]) (H' := [(2, .box [(.s (List.map c_api_Page p_d.Synced)), (.s (List.map c_api_Page p_d.Loose)), (vb p_d.Down)]), (4, .box [(.v (.slice none 0 0)), (.v (.slice none 0 0)), (vb false)])]) ⟨Le.refl _, Le.refl _, Le.refl _, Le.refl _, True.intro⟩ ⟨⟨_, rfl, .refl _⟩, ⟨_, rfl, .refl _⟩, True.intro⟩ rfl) ?_
  refine Ok.seq ?_
  refine Ok.region Try.tok ?_
  refine Ok.wk (Wk.tab (L := [(1, (vi p_id)), (2, (.b 2 0)), (4, (.b 4 0)), (7, (vi x1.2)), (15, (vb ((x1.2 != 0))))]) (H' := [(2, .box [(.s (List.map c_api_Page p_d.Synced)), (.s (List.map c_api_Page p_d.Loose)), (vb p_d.Down)]), (4, .box [(.v (.slice none 0 0)), (.v (.slice none 0 0)), (vb false)])]) ⟨Le.refl _, Le.refl _, Le.refl _, Le.refl _, Le.refl _, True.intro⟩ ⟨⟨_, rfl, .refl _⟩, ⟨_, rfl, .refl _⟩, True.intro⟩ rfl) ?_
  refine Ok.cond (d := 15) (b := (x1.2 != 0)) rfl h (fun hb h => ?_) fun hb h => ?_
  · refine Ok.seq ?_
    refine Ok.region Try.tok ?_
    refine ⟨_, rfl, ⟨_, rfl, ?_⟩⟩
    refine Ok.wk (Wk.tab (L := [(4, (.b 4 0)), (5, (vi x1.2))]) (H' := [(4, .box [(.s (List.map c_api_Page p_d.Synced)), (.s (List.map c_api_Page p_d.Loose)), (vb p_d.Down)])]) ⟨Le.refl _, Le.refl _, True.intro⟩ ⟨⟨_, rfl, .refl _⟩, True.intro⟩ rfl) ?_
    refine Ok.ret ?_
    cases h
    exact ⟨_, rfl, (Fz.t (.cons (Fz.imm rfl) (.cons Fz.v .nil)))⟩
  · refine Ok.skip ?_
    refine Ok.seq ?_
    refine Ok.region Try.tok ?_
    obtain ⟨x2, hx2, h⟩ := bindS h
    refine ⟨_, rfl, ?_⟩
    refine CallOk.call (w_disk_Write hx2) (.cons (Le.refl _) (.cons (Le.refl _) (.cons (Le.nil) (.nil)))) ?_
    refine ⟨_, rfl, ?_⟩
    refine Ok.wk (Wk.tab (L := [(4, (.b 4 0)), (5, (vi x2.2))]) (H' := [(4, .box [(.s (List.map c_api_Page x2.1.Synced)), (.s (List.map c_api_Page x2.1.Loose)), (vb x2.1.Down)])]) ⟨Le.refl _, Le.refl _, True.intro⟩ ⟨⟨_, rfl, .refl _⟩, True.intro⟩ rfl) ?_
    refine Ok.ret ?_
    cases h
    exact ⟨_, rfl, (Fz.t (.cons (Fz.imm rfl) (.cons Fz.v .nil)))⟩

theorem wo_chunk_Has {p_d : api_Disk} {r : (List Int)} (h : chunk_Has p_d = some r) : POwn Try.prog 21 [(.a [(.s (List.map c_api_Page p_d.Synced)), (.s (List.map c_api_Page p_d.Loose)), (vb p_d.Down)])] 3 1 (List.map Go.Cat.encI r) := by
  refine pown_of_ok (n := 24) (c := (Try.f21.body.getD .skip)) Try.tok Try.func21 (by kernel_rfl) rfl rfl (Nat.le_of_ble_eq_true rfl) ?_
  unfold chunk_Has at h
  refine Ok.wk (Wk.tab (L := [(0, (.a [(.s (List.map c_api_Page p_d.Synced)), (.s (List.map c_api_Page p_d.Loose)), (vb p_d.Down)]))]) (H' := []) ⟨Le.refl _, True.intro⟩ True.intro rfl) ?_
  refine Ok.seq ?_
  refine Ok.region Try.tok ?_
  refine Ok.wk (Wk.tab (L := [(1, (.b 1 0))]) (H' := [(1, .box [(.s (List.map c_api_Page p_d.Synced)), (.s (List.map c_api_Page p_d.Loose)), (vb p_d.Down)])]) ⟨Le.refl _, True.intro⟩ ⟨⟨_, rfl, .refl _⟩, True.intro⟩ rfl) ?_
  refine Ok.seq ?_
  refine Ok.region Try.tok ?_
  refine Ok.wk (Wk.tab (L := [(1, (.b 1 0)), (3, (.v (.slice none 0 0)))]) (H' := [(1, .box [(.s (List.map c_api_Page p_d.Synced)), (.s (List.map c_api_Page p_d.Loose)), (vb p_d.Down)])]) ⟨Le.refl _, Le.refl _, True.intro⟩ ⟨⟨_, rfl, .refl _⟩, True.intro⟩ rfl) ?_
  obtain ⟨v1, hv1, h⟩ := bindS h
  refine Ok.seqw ⟨Cat.tab [(3, (.o 21))], [(21, .own 3 1 (List.map Go.Cat.encI v1))]⟩ ?_ ?_
  · refine Ok.seq ?_
    refine Ok.region Try.tok ?_
    refine Ok.wk (Wk.tab (L := [(1, (.b 1 0)), (3, (.v (.slice none 0 0))), (7, (vi (0)))]) (H' := [(1, .box [(.s (List.map c_api_Page p_d.Synced)), (.s (List.map c_api_Page p_d.Loose)), (vb p_d.Down)])]) ⟨Le.refl _, Le.refl _, Le.refl _, True.intro⟩ ⟨⟨_, rfl, .refl _⟩, True.intro⟩ rfl) ?_
    refine Ok.block ?_
    refine Ok.loop (fun (s1 : Int × (List Int)) => ⟨Cat.tab [(1, (.b 1 0)), (3, (.o 21)), (7, (vi s1.1))], [(1, .box [(.s (List.map c_api_Page p_d.Synced)), (.s (List.map c_api_Page p_d.Loose)), (vb p_d.Down)]), (21, .own 3 1 (List.map Go.Cat.encI s1.2))]⟩) (chunk_Has_B1 p_d) (s0 := (0, [])) hv1 ((Wk.own0 (t := 3) (id := 21) (E := 3) (K := 1) rfl rfl).trans (Wk.tab ⟨Le.refl _, Le.refl _, Le.refl _, True.intro⟩ ⟨⟨_, rfl, .refl _⟩, ⟨_, rfl, .refl _⟩, True.intro⟩ rfl)) ?_
    intro s1 y1 hB1 hy1
    unfold chunk_Has_B1 at hB1
    refine Ok.seq ?_
    refine Ok.region Try.tok ?_
    refine Ok.wk (Wk.tab (L := [(1, (.b 1 0)), (3, (.o 21)), (7, (vi s1.1)), (8, (vb ((decide (s1.1 < 200)))))]) (H' := [(1, .box [(.s (List.map c_api_Page p_d.Synced)), (.s (List.map c_api_Page p_d.Loose)), (vb p_d.Down)]), (21, .own 3 1 (List.map Go.Cat.encI s1.2))]) ⟨Le.refl _, Le.refl _, Le.refl _, Le.refl _, True.intro⟩ ⟨⟨_, rfl, .refl _⟩, ⟨_, rfl, .refl _⟩, True.intro⟩ rfl) ?_
    refine Ok.seq ?_
    refine Ok.cond (d := 8) (b := (decide (s1.1 < 200))) rfl hB1 (fun hb hB1 => ?_) fun hb hB1 => ?_
    · refine Ok.skip ?_
      obtain ⟨v2, hv2, hB1⟩ := bindS hB1
      refine Ok.seqw ⟨Cat.tab [(1, (.b 1 0)), (3, (.o 21)), (7, (vi s1.1))], [(1, .box [(.s (List.map c_api_Page p_d.Synced)), (.s (List.map c_api_Page p_d.Loose)), (vb p_d.Down)]), (21, .own 3 1 (List.map Go.Cat.encI v2))]⟩ ?_ ?_
      · refine Ok.block ?_
        refine Ok.seq ?_
        refine Ok.region Try.tok ?_
        refine Ok.wk (Wk.tab (L := [(1, (.b 1 0)), (3, (.o 21)), (4, (vi s1.1)), (7, (vi s1.1))]) (H' := [(1, .box [(.s (List.map c_api_Page p_d.Synced)), (.s (List.map c_api_Page p_d.Loose)), (vb p_d.Down)]), (21, .own 3 1 (List.map Go.Cat.encI s1.2))]) ⟨Le.refl _, Le.refl _, Le.refl _, Le.refl _, True.intro⟩ ⟨⟨_, rfl, .refl _⟩, ⟨_, rfl, .refl _⟩, True.intro⟩ rfl) ?_
        refine Ok.seq ?_
        refine Ok.region Try.tok ?_
        obtain ⟨x1, hx1, hv2⟩ := bindS hv2
        refine ⟨_, rfl, ?_⟩
        refine CallOk.call (w_chunk_there hx1) (LeL.refl _) ?_
        refine Ok.wk (Wk.tab (L := [(1, (.b 1 0)), (3, (.o 21)), (4, (vi s1.1)), (6, (vi x1.2)), (7, (vi s1.1))]) (H' := [(1, .box [(.s (List.map c_api_Page p_d.Synced)), (.s (List.map c_api_Page p_d.Loose)), (vb p_d.Down)]), (21, .own 3 1 (List.map Go.Cat.encI s1.2))]) ⟨Le.refl _, Le.refl _, Le.refl _, Le.refl _, Le.refl _, True.intro⟩ ⟨⟨_, rfl, .refl _⟩, ⟨_, rfl, .refl _⟩, True.intro⟩ rfl) ?_
        refine Ok.seq ?_
        refine Ok.region Try.tok ?_
        refine Ok.wk (Wk.tab (L := [(1, (.b 1 0)), (3, (.o 21)), (4, (vi s1.1)), (7, (vi s1.1)), (17, (vb ((x1.2 == 0))))]) (H' := [(1, .box [(.s (List.map c_api_Page p_d.Synced)), (.s (List.map c_api_Page p_d.Loose)), (vb p_d.Down)]), (21, .own 3 1 (List.map Go.Cat.encI s1.2))]) ⟨Le.refl _, Le.refl _, Le.refl _, Le.refl _, Le.refl _, True.intro⟩ ⟨⟨_, rfl, .refl _⟩, ⟨_, rfl, .refl _⟩, True.intro⟩ rfl) ?_
        refine Ok.cond (d := 17) (b := (x1.2 == 0)) rfl hv2 (fun hb hv2 => ?_) fun hb hv2 => ?_
        · refine Ok.region Try.tok ?_
          obtain ⟨hc1, hv2⟩ := chk_some hv2
          refine Or.inl ⟨rowsLen_map (f := Go.Cat.encI) (n := 1) (fun _ => rfl) ([s1.1]), app_b2 (f := Go.Cat.encI) (l := s1.2) (l' := ([s1.1])) hc1, _, (List.map_append (f := Go.Cat.encI) (l₁ := s1.2) (l₂ := ([s1.1]))).symm, ?_⟩
          cases hv2
          exact Wk.tab ⟨Le.refl _, Le.refl _, Le.refl _, True.intro⟩ ⟨⟨_, rfl, .refl _⟩, ⟨_, rfl, .refl _⟩, True.intro⟩ rfl
        · refine Ok.skip ?_
          cases hv2
          exact Wk.tab ⟨Le.refl _, Le.refl _, Le.refl _, True.intro⟩ ⟨⟨_, rfl, .refl _⟩, ⟨_, rfl, .refl _⟩, True.intro⟩ rfl
      refine Ok.region Try.tok ?_
      obtain ⟨hc2, hB1⟩ := chk_some hB1
      refine (Or.inl ⟨hc2, ?_⟩)
      exact ⟨_, (Option.some.inj hB1).symm, Wk.tab ⟨Le.refl _, Le.refl _, Le.refl _, True.intro⟩ ⟨⟨_, rfl, .refl _⟩, ⟨_, rfl, .refl _⟩, True.intro⟩ rfl⟩
    · refine Ok.exit ?_
      have hB1 := out_ret hB1 hy1
      cases hB1
      exact Wk.tab ⟨Le.refl _, True.intro⟩ ⟨⟨_, rfl, .refl _⟩, True.intro⟩ rfl
  refine Ok.seq ?_
  refine Ok.region Try.tok ?_
  refine Ok.wk (Wk.tab (L := [(2, (.o 21))]) (H' := [(21, .own 3 1 (List.map Go.Cat.encI v1))]) ⟨Le.refl _, True.intro⟩ ⟨⟨_, rfl, .refl _⟩, True.intro⟩ rfl) ?_
  refine Ok.ret ?_
  cases h
  exact (.inr ⟨_, rfl, rfl⟩)
theorem w_chunk_Has {p_d : api_Disk} {r : (List Int)} (h : chunk_Has p_d = some r) : Pure Try.prog 21 [(.a [(.s (List.map c_api_Page p_d.Synced)), (.s (List.map c_api_Page p_d.Loose)), (vb p_d.Down)])] (.s (List.map Go.Cat.encI r)) := (wo_chunk_Has h).pure

theorem w_ref02_Ints {p_a : List Int} {p_b : List Int} {r : Bool} (h : ref02_Ints p_a p_b = some r) : Pure Try.prog 20 [(.s (List.map Go.Cat.encI p_a)), (.s (List.map Go.Cat.encI p_b))] (vb r) := by
  refine pure_of_ok (n := 26) (c := (Try.f20.body.getD .skip)) Try.tok Try.func20 (by kernel_rfl) rfl rfl (Nat.le_of_ble_eq_true rfl) ?_
  unfold ref02_Ints at h
  refine Ok.wk (Wk.tab (L := [(0, (.s (List.map Go.Cat.encI p_a))), (1, (.s (List.map Go.Cat.encI p_b)))]) (H' := []) ⟨Le.refl _, Le.refl _, True.intro⟩ True.intro rfl) ?_
  refine Ok.seq ?_
  refine Ok.region Try.tok ?_
  refine Ok.wk (Wk.tab (L := [(0, (.s (List.map Go.Cat.encI p_a))), (1, (.s (List.map Go.Cat.encI p_b)))]) (H' := []) ⟨Le.refl _, Le.refl _, True.intro⟩ True.intro rfl) ?_
  refine Ok.seq ?_
  refine Ok.seq ?_
  refine Ok.region Try.tok ?_
  refine ⟨_, List.length_map _, fun _ => ⟨_, List.length_map _, fun _ => ?_⟩⟩
  refine Ok.wk (Wk.tab (L := [(0, (.s (List.map Go.Cat.encI p_a))), (1, (.s (List.map Go.Cat.encI p_b))), (10, (vb (((p_a.length : Int) != (p_b.length : Int)))))]) (H' := []) ⟨Le.refl _, Le.refl _, Le.refl _, True.intro⟩ True.intro rfl) ?_
  refine Ok.cond (d := 10) (b := ((p_a.length : Int) != (p_b.length : Int))) rfl h (fun hb h => ?_) fun hb h => ?_
  · refine Ok.seq ?_
    refine Ok.region Try.tok ?_
    refine Ok.wk (Wk.tab (L := [(4, (vb false))]) (H' := []) ⟨Le.refl _, True.intro⟩ True.intro rfl) ?_
    refine Ok.ret ?_
    cases h
    exact Fz.v
  · refine Ok.skip ?_
    refine Ok.seqj (fun v1 => ⟨Cat.tab [], []⟩) (fun v1 => ref02_Ints_J1 v1 = some r) ?_ ?_
    · refine Ok.seq ?_
      refine Ok.region Try.tok ?_
      refine Ok.wk (Wk.tab (L := [(0, (.s (List.map Go.Cat.encI p_a))), (1, (.s (List.map Go.Cat.encI p_b))), (5, (vi (0)))]) (H' := []) ⟨Le.refl _, Le.refl _, Le.refl _, True.intro⟩ True.intro rfl) ?_
      refine Ok.block ?_
      refine Ok.loop (fun (s1 : Int) => ⟨Cat.tab [(0, (.s (List.map Go.Cat.encI p_a))), (1, (.s (List.map Go.Cat.encI p_b))), (5, (vi s1))], []⟩) (ref02_Ints_B1 p_a p_b) (s0 := 0) h (Wk.tab ⟨Le.refl _, Le.refl _, Le.refl _, True.intro⟩ True.intro rfl) ?_
      intro s1 y1 hB1 hy1
      unfold ref02_Ints_B1 at hB1
      refine Ok.seq ?_
      refine Ok.seq ?_
      refine Ok.region Try.tok ?_
      refine ⟨_, List.length_map _, fun _ => ?_⟩
      refine Ok.wk (Wk.tab (L := [(0, (.s (List.map Go.Cat.encI p_a))), (1, (.s (List.map Go.Cat.encI p_b))), (5, (vi s1)), (14, (vb ((decide (s1 < (p_a.length : Int))))))]) (H' := []) ⟨Le.refl _, Le.refl _, Le.refl _, Le.refl _, True.intro⟩ True.intro rfl) ?_
      refine Ok.cond (d := 14) (b := (decide (s1 < (p_a.length : Int)))) rfl hB1 (fun hb hB1 => ?_) fun hb hB1 => ?_
      · refine Ok.skip ?_
        refine Ok.seq ?_
        refine Ok.block ?_
        refine Ok.seq ?_
        refine Ok.draw (m := 9) Try.tok Try.mixed (by kernel_rfl) ?_
        obtain ⟨x1, hx1, hB1⟩ := bindS hB1
        obtain ⟨x2, hx2, hB1⟩ := bindS hB1
        refine ⟨_, rfl, ⟨_, rfl, ⟨_, ⟨_, idx_nat hx1, _, idx_row hx1, rfl⟩, ⟨_, ⟨_, rfl, rfl⟩, ⟨_, rfl, ⟨_, rfl, ⟨_, ⟨_, idx_nat hx2, _, idx_row hx2, rfl⟩, ⟨_, ⟨_, rfl, rfl⟩, ⟨_, rfl, ?_⟩⟩⟩⟩⟩⟩⟩⟩⟩
        refine Ok.wk (Wk.tab (L := [(0, (.s (List.map Go.Cat.encI p_a))), (1, (.s (List.map Go.Cat.encI p_b))), (5, (vi s1)), (25, (vb ((x1 != x2))))]) (H' := []) ⟨Le.refl _, Le.refl _, Le.refl _, Le.refl _, True.intro⟩ True.intro rfl) ?_
        refine Ok.cond (d := 25) (b := (x1 != x2)) rfl hB1 (fun hb hB1 => ?_) fun hb hB1 => ?_
        · refine Ok.seq ?_
          refine Ok.region Try.tok ?_
          refine Ok.wk (Wk.tab (L := [(4, (vb false))]) (H' := []) ⟨Le.refl _, True.intro⟩ True.intro rfl) ?_
          refine Ok.ret ?_
          have hB1 := out_ret hB1 hy1
          cases hB1
          exact Fz.v
        · refine Ok.skip ?_
          refine Ok.region Try.tok ?_
          obtain ⟨hc1, hB1⟩ := chk_some hB1
          refine (Or.inl ⟨hc1, ?_⟩)
          exact ⟨_, (Option.some.inj hB1).symm, Wk.tab ⟨Le.refl _, Le.refl _, Le.refl _, True.intro⟩ True.intro rfl⟩
      · refine Ok.exit ?_
        have hB1 := out_ret hB1 hy1
        exact ⟨_, hB1, Wk.tab True.intro True.intro rfl⟩
    intro v1 h
    unfold ref02_Ints_J1 at h
    refine Ok.seq ?_
    refine Ok.region Try.tok ?_
    refine Ok.wk (Wk.tab (L := [(4, (vb true))]) (H' := []) ⟨Le.refl _, True.intro⟩ True.intro rfl) ?_
    refine Ok.ret ?_
    cases h
    exact Fz.v

theorem w_law25_head {r : Bool} (h : law25_head = some r) : Pure Try.prog 9 [] (vb r) := by
  refine pure_of_ok (n := 112) (c := (Try.f9.body.getD .skip)) Try.tok Try.func9 (by kernel_rfl) rfl rfl (Nat.le_of_ble_eq_true rfl) ?_
  unfold law25_head at h
  refine Ok.wk (Wk.tab (L := []) (H' := []) True.intro True.intro rfl) ?_
  refine Ok.seq ?_
  refine Ok.region Try.tok ?_
  refine Ok.wk (Wk.tab (L := []) (H' := []) True.intro True.intro rfl) ?_
  refine Ok.seq ?_
  refine Ok.region Try.tok ?_
  obtain ⟨x1, hx1, h⟩ := bindS h
  refine Or.inr ⟨(fun h => by cases h), ?_⟩
  refine CallOk.call (w_chunk_New hx1) (LeL.refl _) ?_
  refine ⟨_, rfl, ?_⟩
  refine Ok.wk (Wk.tab (L := [(1, (.b 1 0))]) (H' := [(1, .box [(vi x1.Id), (vi x1.Ver), (.s (List.map cU8 x1.Data)), (.s (List.map Go.Cat.encI x1.Sums))])]) ⟨Le.refl _, True.intro⟩ ⟨⟨_, rfl, .refl _⟩, True.intro⟩ rfl) ?_
  refine Ok.seq ?_
  refine Ok.draw2 (m := 7) (late := [5]) Try.tok Try.mixed (by kernel_rfl) ?_
  obtain ⟨x2, hx2, h⟩ := bindS h
  obtain ⟨x3, hx3, h⟩ := bindS h
  refine ⟨_, ⟨_, .of_pure (w_disk_New hx2) (LeL.refl _), rfl⟩, ⟨_, ⟨_, rfl, rfl⟩, ⟨_, ⟨_, .of_pure (w_chunk_Put hx3) (LeL.refl _), rfl⟩, ⟨_, rfl, ⟨_, rfl, ⟨_, rfl, ?_⟩⟩⟩⟩⟩⟩
  refine ⟨_, rfl, ⟨⟨⟨_, rfl, rfl⟩, True.intro⟩, ?_⟩⟩
  refine Ok.wk (Wk.tab (L := [(1, (.b 1 0)), (2, (.b 2 0)), (3, (vi x3.2))]) (H' := [(1, .box [(vi x1.Id), (vi x1.Ver), (.s (List.map cU8 x1.Data)), (.s (List.map Go.Cat.encI x1.Sums))]), (2, .box [(.s (List.map c_api_Page x3.1.Synced)), (.s (List.map c_api_Page x3.1.Loose)), (vb x3.1.Down)])]) ⟨Le.refl _, Le.refl _, Le.refl _, True.intro⟩ ⟨⟨_, rfl, .refl _⟩, ⟨_, rfl, .refl _⟩, True.intro⟩ rfl) ?_
  refine Ok.seq ?_
  refine Ok.region Try.tok ?_
  obtain ⟨x4, hx4, h⟩ := bindS h
  refine ⟨_, rfl, ?_⟩
  refine CallOk.call (w_chunk_Get hx4) (LeL.refl _) ?_
  refine ⟨_, rfl, ?_⟩
  refine Ok.wk (Wk.tab (L := [(1, (.b 1 0)), (2, (.b 2 0)), (3, (vi x3.2)), (4, (.b 4 0)), (5, (vi x4.2))]) (H' := [(1, .box [(vi x1.Id), (vi x1.Ver), (.s (List.map cU8 x1.Data)), (.s (List.map Go.Cat.encI x1.Sums))]), (2, .box [(.s (List.map c_api_Page x3.1.Synced)), (.s (List.map c_api_Page x3.1.Loose)), (vb x3.1.Down)]), (4, .box [(vi x4.1.Id), (vi x4.1.Ver), (.s (List.map cU8 x4.1.Data)), (.s (List.map Go.Cat.encI x4.1.Sums))])]) ⟨Le.refl _, Le.refl _, Le.refl _, Le.refl _, Le.refl _, True.intro⟩ ⟨⟨_, rfl, .refl _⟩, ⟨_, rfl, .refl _⟩, ⟨_, rfl, .refl _⟩, True.intro⟩ rfl) ?_
  refine Ok.seq ?_
  refine Ok.region Try.tok ?_
  obtain ⟨x5, hx5, h⟩ := bindS h
  refine ⟨_, rfl, ?_⟩
  refine CallOk.call (w_chunk_Get hx5) (LeL.refl _) ?_
  refine ⟨_, rfl, ?_⟩
  refine Ok.wk (Wk.tab (L := [(1, (.b 1 0)), (2, (.b 2 0)), (3, (vi x3.2)), (4, (.b 4 0)), (5, (vi x4.2)), (7, (vi x5.2))]) (H' := [(1, .box [(vi x1.Id), (vi x1.Ver), (.s (List.map cU8 x1.Data)), (.s (List.map Go.Cat.encI x1.Sums))]), (2, .box [(.s (List.map c_api_Page x3.1.Synced)), (.s (List.map c_api_Page x3.1.Loose)), (vb x3.1.Down)]), (4, .box [(vi x4.1.Id), (vi x4.1.Ver), (.s (List.map cU8 x4.1.Data)), (.s (List.map Go.Cat.encI x4.1.Sums))])]) ⟨Le.refl _, Le.refl _, Le.refl _, Le.refl _, Le.refl _, Le.refl _, True.intro⟩ ⟨⟨_, rfl, .refl _⟩, ⟨_, rfl, .refl _⟩, ⟨_, rfl, .refl _⟩, True.intro⟩ rfl) ?_
  refine Ok.seq ?_
  refine Ok.region Try.tok ?_
  refine ⟨_, rfl, ?_⟩
  refine Ok.wk (Wk.tab (L := [(1, (.b 1 0)), (2, (.b 2 0)), (3, (vi x3.2)), (4, (.b 4 0)), (5, (vi x4.2)), (7, (vi x5.2))]) (H' := [(1, .box [(vi x1.Id), (vi x1.Ver), (.s (List.map cU8 x1.Data)), (.v (.slice none 0 0))]), (2, .box [(.s (List.map c_api_Page x3.1.Synced)), (.s (List.map c_api_Page x3.1.Loose)), (vb x3.1.Down)]), (4, .box [(vi x4.1.Id), (vi x4.1.Ver), (.s (List.map cU8 x4.1.Data)), (.s (List.map Go.Cat.encI x4.1.Sums))])]) ⟨Le.refl _, Le.refl _, Le.refl _, Le.refl _, Le.refl _, Le.refl _, True.intro⟩ ⟨⟨_, rfl, .refl _⟩, ⟨_, rfl, .refl _⟩, ⟨_, rfl, .refl _⟩, True.intro⟩ rfl) ?_
  refine Ok.seq ?_
  refine Ok.region Try.tok ?_
  obtain ⟨x6, hx6, h⟩ := bindS h
  refine ⟨_, rfl, ⟨_, rfl, ?_⟩⟩
  refine CallOk.call (w_chunk_Put hx6) (.cons (Le.refl _) (.cons (Le.a (.cons (Le.refl _) (.cons (Le.refl _) (.cons (Le.refl _) (.cons (Le.nil) (.nil)))))) (.nil))) ?_
  refine ⟨_, rfl, ?_⟩
  refine Ok.wk (Wk.tab (L := [(2, (.b 2 0)), (3, (vi x3.2)), (4, (.b 4 0)), (5, (vi x4.2)), (7, (vi x5.2)), (9, (vi x6.2))]) (H' := [(2, .box [(.s (List.map c_api_Page x3.1.Synced)), (.s (List.map c_api_Page x3.1.Loose)), (vb x3.1.Down)]), (4, .box [(vi x4.1.Id), (vi x4.1.Ver), (.s (List.map cU8 x4.1.Data)), (.s (List.map Go.Cat.encI x4.1.Sums))])]) ⟨Le.refl _, Le.refl _, Le.refl _, Le.refl _, Le.refl _, Le.refl _, True.intro⟩ ⟨⟨_, rfl, .refl _⟩, ⟨_, rfl, .refl _⟩, True.intro⟩ rfl) ?_
  refine Ok.seq ?_
  refine Ok.region Try.tok ?_
  obtain ⟨x7, hx7, h⟩ := bindS h
  refine ⟨_, rfl, ?_⟩
  refine CallOk.call (w_chunk_Lose hx7) (LeL.refl _) ?_
  refine ⟨_, rfl, ?_⟩
  refine Ok.wk (Wk.tab (L := [(2, (.b 2 0)), (3, (vi x3.2)), (4, (.b 4 0)), (5, (vi x4.2)), (7, (vi x5.2)), (9, (vi x6.2)), (10, (.b 10 0)), (11, (vi x7.2))]) (H' := [(2, .box [(.s (List.map c_api_Page x3.1.Synced)), (.s (List.map c_api_Page x3.1.Loose)), (vb x3.1.Down)]), (4, .box [(vi x4.1.Id), (vi x4.1.Ver), (.s (List.map cU8 x4.1.Data)), (.s (List.map Go.Cat.encI x4.1.Sums))]), (10, .box [(.s (List.map c_api_Page x7.1.Synced)), (.s (List.map c_api_Page x7.1.Loose)), (vb x7.1.Down)])]) ⟨Le.refl _, Le.refl _, Le.refl _, Le.refl _, Le.refl _, Le.refl _, Le.refl _, Le.refl _, True.intro⟩ ⟨⟨_, rfl, .refl _⟩, ⟨_, rfl, .refl _⟩, ⟨_, rfl, .refl _⟩, True.intro⟩ rfl) ?_
  refine Ok.seq ?_
  refine Ok.region Try.tok ?_
  obtain ⟨x8, hx8, h⟩ := bindS h
  refine ⟨_, rfl, ?_⟩
  refine CallOk.call (w_chunk_Get hx8) (LeL.refl _) ?_
  refine ⟨_, rfl, ?_⟩
  refine Ok.wk (Wk.tab (L := [(2, (.b 2 0)), (3, (vi x3.2)), (4, (.b 4 0)), (5, (vi x4.2)), (7, (vi x5.2)), (9, (vi x6.2)), (10, (.b 10 0)), (11, (vi x7.2)), (13, (vi x8.2))]) (H' := [(2, .box [(.s (List.map c_api_Page x3.1.Synced)), (.s (List.map c_api_Page x3.1.Loose)), (vb x3.1.Down)]), (4, .box [(vi x4.1.Id), (vi x4.1.Ver), (.s (List.map cU8 x4.1.Data)), (.s (List.map Go.Cat.encI x4.1.Sums))]), (10, .box [(.s (List.map c_api_Page x7.1.Synced)), (.s (List.map c_api_Page x7.1.Loose)), (vb x7.1.Down)])]) ⟨Le.refl _, Le.refl _, Le.refl _, Le.refl _, Le.refl _, Le.refl _, Le.refl _, Le.refl _, Le.refl _, True.intro⟩ ⟨⟨_, rfl, .refl _⟩, ⟨_, rfl, .refl _⟩, ⟨_, rfl, .refl _⟩, True.intro⟩ rfl) ?_
  refine Ok.seq ?_
  refine Ok.region Try.tok ?_
  obtain ⟨x9, hx9, h⟩ := bindS h
  refine ⟨_, rfl, ?_⟩
  refine CallOk.call (w_chunk_Get hx9) (LeL.refl _) ?_
  refine ⟨_, rfl, ?_⟩
  refine Ok.wk (Wk.tab (L := [(2, (.b 2 0)), (3, (vi x3.2)), (4, (.b 4 0)), (5, (vi x4.2)), (7, (vi x5.2)), (9, (vi x6.2)), (10, (.b 10 0)), (11, (vi x7.2)), (13, (vi x8.2)), (15, (vi x9.2))]) (H' := [(2, .box [(.s (List.map c_api_Page x3.1.Synced)), (.s (List.map c_api_Page x3.1.Loose)), (vb x3.1.Down)]), (4, .box [(vi x4.1.Id), (vi x4.1.Ver), (.s (List.map cU8 x4.1.Data)), (.s (List.map Go.Cat.encI x4.1.Sums))]), (10, .box [(.s (List.map c_api_Page x7.1.Synced)), (.s (List.map c_api_Page x7.1.Loose)), (vb x7.1.Down)])]) ⟨Le.refl _, Le.refl _, Le.refl _, Le.refl _, Le.refl _, Le.refl _, Le.refl _, Le.refl _, Le.refl _, Le.refl _, True.intro⟩ ⟨⟨_, rfl, .refl _⟩, ⟨_, rfl, .refl _⟩, ⟨_, rfl, .refl _⟩, True.intro⟩ rfl) ?_
  obtain ⟨v1, hv1, h⟩ := bindS h
  refine Ok.seqw ⟨Cat.tab [(0, (vb v1))], []⟩ ?_ ?_
  · refine Ok.region Try.tok ?_
    obtain ⟨c1, hg1, hv1⟩ := bindS hv1
    refine Br.ite hg1 (fun hb hg1 => ?_) fun hb hg1 => ?_
    · cases hg1
      obtain ⟨c2, hg2, hv1⟩ := bindS hv1
      refine Br.ite hg2 (fun hb hg2 => ?_) fun hb hg2 => ?_
      · refine ⟨_, rfl, ?_⟩
        cases hg2
        obtain ⟨c3, hg3, hv1⟩ := bindS hv1
        refine Br.ite hg3 (fun hb hg3 => ?_) fun hb hg3 => ?_
        · refine ⟨_, rfl, ⟨_, rfl, ⟨_, str_eql _ _, ?_⟩⟩⟩
          cases hg3
          obtain ⟨c4, hg4, hv1⟩ := bindS hv1
          refine Br.ite hg4 (fun hb hg4 => ?_) fun hb hg4 => ?_
          · refine ⟨_, rfl, ⟨_, List.length_map _, fun _ => ?_⟩⟩
            cases hg4
            obtain ⟨c5, hg5, hv1⟩ := bindS hv1
            refine Br.ite hg5 (fun hb hg5 => ?_) fun hb hg5 => ?_
            · cases hg5
              obtain ⟨c6, hg6, hv1⟩ := bindS hv1
              refine Br.ite hg6 (fun hb hg6 => ?_) fun hb hg6 => ?_
              · cases hg6
                obtain ⟨c7, hg7, hv1⟩ := bindS hv1
                refine Br.ite hg7 (fun hb hg7 => ?_) fun hb hg7 => ?_
                · cases hg7
                  obtain ⟨c8, hg8, hv1⟩ := bindS hv1
                  refine Br.ite hg8 (fun hb hg8 => ?_) fun hb hg8 => ?_
                  · cases hg8
                    obtain ⟨c9, hg9, hv1⟩ := bindS hv1
                    refine Br.ite hg9 (fun hb hg9 => ?_) fun hb hg9 => ?_
                    · cases hg9
                      obtain ⟨c10, hg10, hv1⟩ := bindS hv1
                      refine Br.ite hg10 (fun hb hg10 => ?_) fun hb hg10 => ?_
                      · obtain ⟨x10, hx10, hg10⟩ := bindS hg10
                        refine ⟨_, rfl, ?_⟩
                        refine CallOk.call (w_chunk_Has hx10) (LeL.refl _) ?_
                        obtain ⟨x11, hx11, hg10⟩ := bindS hg10
                        refine Or.inl ?_
                        refine CallOk.call (w_ref02_Ints hx11) (LeL.refl _) ?_
                        cases hg10
                        obtain ⟨c11, hg11, hv1⟩ := bindS hv1
                        refine Br.ite hg11 (fun hb hg11 => ?_) fun hb hg11 => ?_
                        · obtain ⟨x12, hx12, hg11⟩ := bindS hg11
                          refine ⟨_, rfl, ?_⟩
                          refine CallOk.call (w_chunk_Has hx12) (LeL.refl _) ?_
                          refine ⟨_, List.length_map _, fun _ => ?_⟩
                          cases hg11
                          cases hv1
                          exact Wk.tab ⟨Le.refl _, True.intro⟩ True.intro rfl
                        · cases hg11
                          cases hv1
                          exact Wk.tab ⟨Le.refl _, True.intro⟩ True.intro rfl
                      · cases hg10
                        obtain ⟨c11, hg12, hv1⟩ := bindS hv1
                        replace hg12 := iteF hg12
                        cases hg12
                        cases hv1
                        exact Wk.tab ⟨Le.refl _, True.intro⟩ True.intro rfl
                    · cases hg9
                      obtain ⟨c10, hg13, hv1⟩ := bindS hv1
                      replace hg13 := iteF hg13
                      cases hg13
                      obtain ⟨c11, hg14, hv1⟩ := bindS hv1
                      replace hg14 := iteF hg14
                      cases hg14
                      cases hv1
                      exact Wk.tab ⟨Le.refl _, True.intro⟩ True.intro rfl
                  · cases hg8
                    obtain ⟨c9, hg15, hv1⟩ := bindS hv1
                    replace hg15 := iteF hg15
                    cases hg15
                    obtain ⟨c10, hg16, hv1⟩ := bindS hv1
                    replace hg16 := iteF hg16
                    cases hg16
                    obtain ⟨c11, hg17, hv1⟩ := bindS hv1
                    replace hg17 := iteF hg17
                    cases hg17
                    cases hv1
                    exact Wk.tab ⟨Le.refl _, True.intro⟩ True.intro rfl
                · cases hg7
                  obtain ⟨c8, hg18, hv1⟩ := bindS hv1
                  replace hg18 := iteF hg18
                  cases hg18
                  obtain ⟨c9, hg19, hv1⟩ := bindS hv1
                  replace hg19 := iteF hg19
                  cases hg19
                  obtain ⟨c10, hg20, hv1⟩ := bindS hv1
                  replace hg20 := iteF hg20
                  cases hg20
                  obtain ⟨c11, hg21, hv1⟩ := bindS hv1
                  replace hg21 := iteF hg21
                  cases hg21
                  cases hv1
                  exact Wk.tab ⟨Le.refl _, True.intro⟩ True.intro rfl
              · cases hg6
                obtain ⟨c7, hg22, hv1⟩ := bindS hv1
                replace hg22 := iteF hg22
                cases hg22
                obtain ⟨c8, hg23, hv1⟩ := bindS hv1
                replace hg23 := iteF hg23
                cases hg23
                obtain ⟨c9, hg24, hv1⟩ := bindS hv1
                replace hg24 := iteF hg24
                cases hg24
                obtain ⟨c10, hg25, hv1⟩ := bindS hv1
                replace hg25 := iteF hg25
                cases hg25
                obtain ⟨c11, hg26, hv1⟩ := bindS hv1
                replace hg26 := iteF hg26
                cases hg26
                cases hv1
                exact Wk.tab ⟨Le.refl _, True.intro⟩ True.intro rfl
            · cases hg5
              obtain ⟨c6, hg27, hv1⟩ := bindS hv1
              replace hg27 := iteF hg27
              cases hg27
              obtain ⟨c7, hg28, hv1⟩ := bindS hv1
              replace hg28 := iteF hg28
              cases hg28
              obtain ⟨c8, hg29, hv1⟩ := bindS hv1
              replace hg29 := iteF hg29
              cases hg29
              obtain ⟨c9, hg30, hv1⟩ := bindS hv1
              replace hg30 := iteF hg30
              cases hg30
              obtain ⟨c10, hg31, hv1⟩ := bindS hv1
              replace hg31 := iteF hg31
              cases hg31
              obtain ⟨c11, hg32, hv1⟩ := bindS hv1
              replace hg32 := iteF hg32
              cases hg32
              cases hv1
              exact Wk.tab ⟨Le.refl _, True.intro⟩ True.intro rfl
          · cases hg4
            obtain ⟨c5, hg33, hv1⟩ := bindS hv1
            replace hg33 := iteF hg33
            cases hg33
            obtain ⟨c6, hg34, hv1⟩ := bindS hv1
            replace hg34 := iteF hg34
            cases hg34
            obtain ⟨c7, hg35, hv1⟩ := bindS hv1
            replace hg35 := iteF hg35
            cases hg35
            obtain ⟨c8, hg36, hv1⟩ := bindS hv1
            replace hg36 := iteF hg36
            cases hg36
            obtain ⟨c9, hg37, hv1⟩ := bindS hv1
            replace hg37 := iteF hg37
            cases hg37
            obtain ⟨c10, hg38, hv1⟩ := bindS hv1
            replace hg38 := iteF hg38
            cases hg38
            obtain ⟨c11, hg39, hv1⟩ := bindS hv1
            replace hg39 := iteF hg39
            cases hg39
            cases hv1
            exact Wk.tab ⟨Le.refl _, True.intro⟩ True.intro rfl
        · cases hg3
          obtain ⟨c4, hg40, hv1⟩ := bindS hv1
          replace hg40 := iteF hg40
          cases hg40
          obtain ⟨c5, hg41, hv1⟩ := bindS hv1
          replace hg41 := iteF hg41
          cases hg41
          obtain ⟨c6, hg42, hv1⟩ := bindS hv1
          replace hg42 := iteF hg42
          cases hg42
          obtain ⟨c7, hg43, hv1⟩ := bindS hv1
          replace hg43 := iteF hg43
          cases hg43
          obtain ⟨c8, hg44, hv1⟩ := bindS hv1
          replace hg44 := iteF hg44
          cases hg44
          obtain ⟨c9, hg45, hv1⟩ := bindS hv1
          replace hg45 := iteF hg45
          cases hg45
          obtain ⟨c10, hg46, hv1⟩ := bindS hv1
          replace hg46 := iteF hg46
          cases hg46
          obtain ⟨c11, hg47, hv1⟩ := bindS hv1
          replace hg47 := iteF hg47
          cases hg47
          cases hv1
          exact Wk.tab ⟨Le.refl _, True.intro⟩ True.intro rfl
      · cases hg2
        obtain ⟨c3, hg48, hv1⟩ := bindS hv1
        replace hg48 := iteF hg48
        cases hg48
        obtain ⟨c4, hg49, hv1⟩ := bindS hv1
        replace hg49 := iteF hg49
        cases hg49
        obtain ⟨c5, hg50, hv1⟩ := bindS hv1
        replace hg50 := iteF hg50
        cases hg50
        obtain ⟨c6, hg51, hv1⟩ := bindS hv1
        replace hg51 := iteF hg51
        cases hg51
        obtain ⟨c7, hg52, hv1⟩ := bindS hv1
        replace hg52 := iteF hg52
        cases hg52
        obtain ⟨c8, hg53, hv1⟩ := bindS hv1
        replace hg53 := iteF hg53
        cases hg53
        obtain ⟨c9, hg54, hv1⟩ := bindS hv1
        replace hg54 := iteF hg54
        cases hg54
        obtain ⟨c10, hg55, hv1⟩ := bindS hv1
        replace hg55 := iteF hg55
        cases hg55
        obtain ⟨c11, hg56, hv1⟩ := bindS hv1
        replace hg56 := iteF hg56
        cases hg56
        cases hv1
        exact Wk.tab ⟨Le.refl _, True.intro⟩ True.intro rfl
    · cases hg1
      obtain ⟨c2, hg57, hv1⟩ := bindS hv1
      replace hg57 := iteF hg57
      cases hg57
      obtain ⟨c3, hg58, hv1⟩ := bindS hv1
      replace hg58 := iteF hg58
      cases hg58
      obtain ⟨c4, hg59, hv1⟩ := bindS hv1
      replace hg59 := iteF hg59
      cases hg59
      obtain ⟨c5, hg60, hv1⟩ := bindS hv1
      replace hg60 := iteF hg60
      cases hg60
      obtain ⟨c6, hg61, hv1⟩ := bindS hv1
      replace hg61 := iteF hg61
      cases hg61
      obtain ⟨c7, hg62, hv1⟩ := bindS hv1
      replace hg62 := iteF hg62
      cases hg62
      obtain ⟨c8, hg63, hv1⟩ := bindS hv1
      replace hg63 := iteF hg63
      cases hg63
      obtain ⟨c9, hg64, hv1⟩ := bindS hv1
      replace hg64 := iteF hg64
      cases hg64
      obtain ⟨c10, hg65, hv1⟩ := bindS hv1
      replace hg65 := iteF hg65
      cases hg65
      obtain ⟨c11, hg66, hv1⟩ := bindS hv1
      replace hg66 := iteF hg66
      cases hg66
      cases hv1
      exact Wk.tab ⟨Le.refl _, True.intro⟩ True.intro rfl
  refine Ok.ret ?_
  cases h
  exact Fz.v

theorem w_ref04_Page {p_p : api_Page} {r : Bool} (h : ref04_Page p_p = some r) : Pure Try.prog 59 [(.a [(vi p_p.At), (.s (List.map cU8 p_p.Data))])] (vb r) := by
  refine pure_of_ok (n := 17) (c := (Try.f59.body.getD .skip)) Try.tok Try.func59 (by kernel_rfl) rfl rfl (Nat.le_of_ble_eq_true rfl) ?_
  unfold ref04_Page at h
  refine Ok.wk (Wk.tab (L := [(0, (.a [(vi p_p.At), (.s (List.map cU8 p_p.Data))]))]) (H' := []) ⟨Le.refl _, True.intro⟩ True.intro rfl) ?_
  refine Ok.seq ?_
  refine Ok.region Try.tok ?_
  refine Ok.wk (Wk.tab (L := [(1, (.b 1 0))]) (H' := [(1, .box [(vi p_p.At), (.s (List.map cU8 p_p.Data))])]) ⟨Le.refl _, True.intro⟩ ⟨⟨_, rfl, .refl _⟩, True.intro⟩ rfl) ?_
  obtain ⟨v1, hv1, h⟩ := bindS h
  refine Ok.seqw ⟨Cat.tab [(2, (vb v1))], []⟩ ?_ ?_
  · refine Ok.region Try.tok ?_
    refine ⟨_, rfl, ?_⟩
    obtain ⟨c1, hg1, hv1⟩ := bindS hv1
    refine Br.ite hg1 (fun hb hg1 => ?_) fun hb hg1 => ?_
    · refine ⟨_, rfl, ?_⟩
      cases hg1
      obtain ⟨c2, hg2, hv1⟩ := bindS hv1
      refine Br.ite hg2 (fun hb hg2 => ?_) fun hb hg2 => ?_
      · refine ⟨_, rfl, ⟨_, List.length_map _, fun _ => ?_⟩⟩
        cases hg2
        cases hv1
        exact Wk.tab ⟨Le.refl _, True.intro⟩ True.intro rfl
      · cases hg2
        cases hv1
        exact Wk.tab ⟨Le.refl _, True.intro⟩ True.intro rfl
    · cases hg1
      obtain ⟨c2, hg3, hv1⟩ := bindS hv1
      replace hg3 := iteF hg3
      cases hg3
      cases hv1
      exact Wk.tab ⟨Le.refl _, True.intro⟩ True.intro rfl
  refine Ok.ret ?_
  cases h
  exact Fz.v

theorem w_ref04_Right {p_d : api_Disk} {r : Bool} (h : ref04_Right p_d = some r) : Pure Try.prog 33 [(.a [(.s (List.map c_api_Page p_d.Synced)), (.s (List.map c_api_Page p_d.Loose)), (vb p_d.Down)])] (vb r) := by
  refine pure_of_ok (n := 66) (c := (Try.f33.body.getD .skip)) Try.tok Try.func33 (by kernel_rfl) rfl rfl (Nat.le_of_ble_eq_true rfl) ?_
  unfold ref04_Right at h
  refine Ok.wk (Wk.tab (L := [(0, (.a [(.s (List.map c_api_Page p_d.Synced)), (.s (List.map c_api_Page p_d.Loose)), (vb p_d.Down)]))]) (H' := []) ⟨Le.refl _, True.intro⟩ True.intro rfl) ?_
  refine Ok.seq ?_
  refine Ok.region Try.tok ?_
  refine Ok.wk (Wk.tab (L := [(1, (.b 1 0))]) (H' := [(1, .box [(.s (List.map c_api_Page p_d.Synced)), (.s (List.map c_api_Page p_d.Loose)), (vb p_d.Down)])]) ⟨Le.refl _, True.intro⟩ ⟨⟨_, rfl, .refl _⟩, True.intro⟩ rfl) ?_
  refine Ok.seqj (fun v1 => ⟨Cat.tab [(1, (.b 1 0))], [(1, .box [(.s (List.map c_api_Page p_d.Synced)), (.s (List.map c_api_Page p_d.Loose)), (vb p_d.Down)])]⟩) (fun v1 => ref04_Right_J1 p_d v1 = some r) ?_ ?_
  · refine Ok.seq ?_
    refine Ok.region Try.tok ?_
    refine Ok.wk (Wk.tab (L := [(1, (.b 1 0)), (3, (vi (0)))]) (H' := [(1, .box [(.s (List.map c_api_Page p_d.Synced)), (.s (List.map c_api_Page p_d.Loose)), (vb p_d.Down)])]) ⟨Le.refl _, Le.refl _, True.intro⟩ ⟨⟨_, rfl, .refl _⟩, True.intro⟩ rfl) ?_
    refine Ok.block ?_
    refine Ok.loop (fun (s1 : Int) => ⟨Cat.tab [(1, (.b 1 0)), (3, (vi s1))], [(1, .box [(.s (List.map c_api_Page p_d.Synced)), (.s (List.map c_api_Page p_d.Loose)), (vb p_d.Down)])]⟩) (ref04_Right_B1 p_d) (s0 := 0) h (Wk.tab ⟨Le.refl _, Le.refl _, True.intro⟩ ⟨⟨_, rfl, .refl _⟩, True.intro⟩ rfl) ?_
    intro s1 y1 hB1 hy1
    unfold ref04_Right_B1 at hB1
    refine Ok.seq ?_
    refine Ok.seq ?_
    refine Ok.region Try.tok ?_
    refine ⟨_, rfl, ⟨_, List.length_map _, fun _ => ?_⟩⟩
    refine Ok.wk (Wk.tab (L := [(1, (.b 1 0)), (3, (vi s1)), (11, (vb ((decide (s1 < (p_d.Synced.length : Int))))))]) (H' := [(1, .box [(.s (List.map c_api_Page p_d.Synced)), (.s (List.map c_api_Page p_d.Loose)), (vb p_d.Down)])]) ⟨Le.refl _, Le.refl _, Le.refl _, True.intro⟩ ⟨⟨_, rfl, .refl _⟩, True.intro⟩ rfl) ?_
    refine Ok.cond (d := 11) (b := (decide (s1 < (p_d.Synced.length : Int)))) rfl hB1 (fun hb hB1 => ?_) fun hb hB1 => ?_
    · refine Ok.skip ?_
      refine Ok.seq ?_
      refine Ok.block ?_
      refine Ok.seq ?_
      refine Ok.region Try.tok ?_
      obtain ⟨x1, hx1, hB1⟩ := bindS hB1
      obtain ⟨x2, hx2, hB1⟩ := bindS hB1
      refine ⟨_, rfl, ⟨_, idx_nat hx1, _, idx_row hx1, ⟨_, rfl, ?_⟩⟩⟩
      refine CallOk.call (w_ref04_Page hx2) (LeL.refl _) ?_
      refine Ok.wk (Wk.tab (L := [(1, (.b 1 0)), (3, (vi s1)), (4, (vb x2))]) (H' := [(1, .box [(.s (List.map c_api_Page p_d.Synced)), (.s (List.map c_api_Page p_d.Loose)), (vb p_d.Down)])]) ⟨Le.refl _, Le.refl _, Le.refl _, True.intro⟩ ⟨⟨_, rfl, .refl _⟩, True.intro⟩ rfl) ?_
      obtain ⟨v2, hv2, hB1⟩ := bindS hB1
      refine Ok.seqw ⟨Cat.tab [(1, (.b 1 0)), (3, (vi s1)), (41, (vb v2))], [(1, .box [(.s (List.map c_api_Page p_d.Synced)), (.s (List.map c_api_Page p_d.Loose)), (vb p_d.Down)])]⟩ ?_ ?_
      · refine Ok.draw (m := 22) Try.tok Try.mixed (by kernel_rfl) ?_
        refine ⟨_, rfl, ⟨_, rfl, ⟨_, rfl, ?_⟩⟩⟩
        obtain ⟨c2, hg1, hv2⟩ := bindS hv2
        refine Br.itf hg1 (fun hb hg1 => ?_) fun hb hg1 => ?_
        · cases hg1
          refine ⟨_, rfl, ?_⟩
          cases hv2
          exact Wk.tab ⟨Le.refl _, Le.refl _, Le.refl _, True.intro⟩ ⟨⟨_, rfl, .refl _⟩, True.intro⟩ rfl
        · refine ⟨_, rfl, ⟨_, rfl, ⟨_, rfl, ?_⟩⟩⟩
          obtain ⟨c1, hg2, hg1⟩ := bindS hg1
          refine Br.ite hg2 (fun hb hg2 => ?_) fun hb hg2 => ?_
          · obtain ⟨x3, hx3, hg2⟩ := bindS hg2
            obtain ⟨hc1, hg2⟩ := chk_some hg2
            obtain ⟨x4, hx4, hg2⟩ := bindS hg2
            refine ⟨_, rfl, ⟨_, ⟨_, rfl, rfl⟩, ⟨_, rfl, ⟨_, ⟨_, idx_nat hx3, _, idx_row hx3, rfl⟩, ⟨_, rfl, ⟨_, ⟨_, rfl, rfl⟩, ⟨_, rfl, ⟨_, ⟨_, rfl, rfl⟩, ⟨_, rfl, ⟨_, (Or.inl ⟨hc1, rfl⟩), ⟨_, ⟨_, idx_nat hx4, _, idx_row hx4, rfl⟩, ⟨_, rfl, ⟨_, ⟨_, rfl, rfl⟩, ⟨_, rfl, ?_⟩⟩⟩⟩⟩⟩⟩⟩⟩⟩⟩⟩⟩⟩
            cases hg2
            refine ⟨_, rfl, ?_⟩
            cases hg1
            refine ⟨_, rfl, ?_⟩
            cases hv2
            exact Wk.tab ⟨Le.refl _, Le.refl _, Le.refl _, True.intro⟩ ⟨⟨_, rfl, .refl _⟩, True.intro⟩ rfl
          · cases hg2
            refine ⟨_, rfl, ?_⟩
            cases hg1
            refine ⟨_, rfl, ?_⟩
            cases hv2
            exact Wk.tab ⟨Le.refl _, Le.refl _, Le.refl _, True.intro⟩ ⟨⟨_, rfl, .refl _⟩, True.intro⟩ rfl
      refine Ok.cond (d := 41) (b := v2) rfl hB1 (fun hb hB1 => ?_) fun hb hB1 => ?_
      · refine Ok.seq ?_
        refine Ok.region Try.tok ?_
        refine Ok.wk (Wk.tab (L := [(2, (vb false))]) (H' := []) ⟨Le.refl _, True.intro⟩ True.intro rfl) ?_
        refine Ok.ret ?_
        have hB1 := out_ret hB1 hy1
        cases hB1
        exact Fz.v
      · refine Ok.skip ?_
        refine Ok.region Try.tok ?_
        obtain ⟨hc2, hB1⟩ := chk_some hB1
        refine (Or.inl ⟨hc2, ?_⟩)
        exact ⟨_, (Option.some.inj hB1).symm, Wk.tab ⟨Le.refl _, Le.refl _, True.intro⟩ ⟨⟨_, rfl, .refl _⟩, True.intro⟩ rfl⟩
    · refine Ok.exit ?_
      have hB1 := out_ret hB1 hy1
      exact ⟨_, hB1, Wk.tab ⟨Le.refl _, True.intro⟩ ⟨⟨_, rfl, .refl _⟩, True.intro⟩ rfl⟩
  intro v1 h
  unfold ref04_Right_J1 at h
  refine Ok.seqj (fun v3 => ⟨Cat.tab [(1, (.b 1 0))], [(1, .box [(.s (List.map c_api_Page p_d.Synced)), (.s (List.map c_api_Page p_d.Loose)), (vb p_d.Down)])]⟩) (fun v3 => ref04_Right_J2 p_d v3 = some r) ?_ ?_
  · refine Ok.seq ?_
    refine Ok.region Try.tok ?_
    refine Ok.wk (Wk.tab (L := [(1, (.b 1 0)), (5, (vi (0)))]) (H' := [(1, .box [(.s (List.map c_api_Page p_d.Synced)), (.s (List.map c_api_Page p_d.Loose)), (vb p_d.Down)])]) ⟨Le.refl _, Le.refl _, True.intro⟩ ⟨⟨_, rfl, .refl _⟩, True.intro⟩ rfl) ?_
    refine Ok.block ?_
    refine Ok.loop (fun (s2 : Int) => ⟨Cat.tab [(1, (.b 1 0)), (5, (vi s2))], [(1, .box [(.s (List.map c_api_Page p_d.Synced)), (.s (List.map c_api_Page p_d.Loose)), (vb p_d.Down)])]⟩) (ref04_Right_B2 p_d) (s0 := 0) h (Wk.tab ⟨Le.refl _, Le.refl _, True.intro⟩ ⟨⟨_, rfl, .refl _⟩, True.intro⟩ rfl) ?_
    intro s2 y2 hB2 hy2
    unfold ref04_Right_B2 at hB2
    refine Ok.seq ?_
    refine Ok.seq ?_
    refine Ok.region Try.tok ?_
    refine ⟨_, rfl, ⟨_, List.length_map _, fun _ => ?_⟩⟩
    refine Ok.wk (Wk.tab (L := [(1, (.b 1 0)), (5, (vi s2)), (46, (vb ((decide (s2 < (p_d.Loose.length : Int))))))]) (H' := [(1, .box [(.s (List.map c_api_Page p_d.Synced)), (.s (List.map c_api_Page p_d.Loose)), (vb p_d.Down)])]) ⟨Le.refl _, Le.refl _, Le.refl _, True.intro⟩ ⟨⟨_, rfl, .refl _⟩, True.intro⟩ rfl) ?_
    refine Ok.cond (d := 46) (b := (decide (s2 < (p_d.Loose.length : Int)))) rfl hB2 (fun hb hB2 => ?_) fun hb hB2 => ?_
    · refine Ok.skip ?_
      refine Ok.seq ?_
      refine Ok.block ?_
      refine Ok.seq ?_
      refine Ok.region Try.tok ?_
      obtain ⟨x5, hx5, hB2⟩ := bindS hB2
      obtain ⟨x6, hx6, hB2⟩ := bindS hB2
      refine ⟨_, rfl, ⟨_, idx_nat hx5, _, idx_row hx5, ⟨_, rfl, ?_⟩⟩⟩
      refine CallOk.call (w_ref04_Page hx6) (LeL.refl _) ?_
      refine Ok.wk (Wk.tab (L := [(1, (.b 1 0)), (5, (vi s2)), (6, (vb x6))]) (H' := [(1, .box [(.s (List.map c_api_Page p_d.Synced)), (.s (List.map c_api_Page p_d.Loose)), (vb p_d.Down)])]) ⟨Le.refl _, Le.refl _, Le.refl _, True.intro⟩ ⟨⟨_, rfl, .refl _⟩, True.intro⟩ rfl) ?_
      refine Ok.seq ?_
      refine Ok.region Try.tok ?_
      refine Ok.wk (Wk.tab (L := [(1, (.b 1 0)), (5, (vi s2)), (56, (vb ((!x6))))]) (H' := [(1, .box [(.s (List.map c_api_Page p_d.Synced)), (.s (List.map c_api_Page p_d.Loose)), (vb p_d.Down)])]) ⟨Le.refl _, Le.refl _, Le.refl _, True.intro⟩ ⟨⟨_, rfl, .refl _⟩, True.intro⟩ rfl) ?_
      refine Ok.cond (d := 56) (b := (!x6)) rfl hB2 (fun hb hB2 => ?_) fun hb hB2 => ?_
      · refine Ok.seq ?_
        refine Ok.region Try.tok ?_
        refine Ok.wk (Wk.tab (L := [(2, (vb false))]) (H' := []) ⟨Le.refl _, True.intro⟩ True.intro rfl) ?_
        refine Ok.ret ?_
        have hB2 := out_ret hB2 hy2
        cases hB2
        exact Fz.v
      · refine Ok.skip ?_
        refine Ok.region Try.tok ?_
        obtain ⟨hc3, hB2⟩ := chk_some hB2
        refine (Or.inl ⟨hc3, ?_⟩)
        exact ⟨_, (Option.some.inj hB2).symm, Wk.tab ⟨Le.refl _, Le.refl _, True.intro⟩ ⟨⟨_, rfl, .refl _⟩, True.intro⟩ rfl⟩
    · refine Ok.exit ?_
      have hB2 := out_ret hB2 hy2
      exact ⟨_, hB2, Wk.tab ⟨Le.refl _, True.intro⟩ ⟨⟨_, rfl, .refl _⟩, True.intro⟩ rfl⟩
  intro v3 h
  unfold ref04_Right_J2 at h
  obtain ⟨v4, hv4, h⟩ := bindS h
  refine Ok.seqw ⟨Cat.tab [(2, (vb v4))], []⟩ ?_ ?_
  · refine Ok.region Try.tok ?_
    refine ⟨_, rfl, ?_⟩
    obtain ⟨c3, hg3, hv4⟩ := bindS hv4
    refine Br.itf hg3 (fun hb hg3 => ?_) fun hb hg3 => ?_
    · cases hg3
      cases hv4
      exact Wk.tab ⟨Le.refl _, True.intro⟩ True.intro rfl
    · refine ⟨_, rfl, ⟨_, List.length_map _, fun _ => ?_⟩⟩
      cases hg3
      cases hv4
      exact Wk.tab ⟨Le.refl _, True.intro⟩ True.intro rfl
  refine Ok.ret ?_
  cases h
  exact Fz.v

theorem w_law25_Great {p_d : api_Disk} {r : Bool} (h : law25_Great p_d = some r) : Pure Try.prog 10 [(.a [(.s (List.map c_api_Page p_d.Synced)), (.s (List.map c_api_Page p_d.Loose)), (vb p_d.Down)])] (vb r) := by
  refine pure_of_ok (n := 48) (c := (Try.f10.body.getD .skip)) Try.tok Try.func10 (by kernel_rfl) rfl rfl (Nat.le_of_ble_eq_true rfl) ?_
  unfold law25_Great at h
  refine Ok.wk (Wk.tab (L := [(0, (.a [(.s (List.map c_api_Page p_d.Synced)), (.s (List.map c_api_Page p_d.Loose)), (vb p_d.Down)]))]) (H' := []) ⟨Le.refl _, True.intro⟩ True.intro rfl) ?_
  refine Ok.seq ?_
  refine Ok.region Try.tok ?_
  refine Ok.wk (Wk.tab (L := [(1, (.b 1 0))]) (H' := [(1, .box [(.s (List.map c_api_Page p_d.Synced)), (.s (List.map c_api_Page p_d.Loose)), (vb p_d.Down)])]) ⟨Le.refl _, True.intro⟩ ⟨⟨_, rfl, .refl _⟩, True.intro⟩ rfl) ?_
  refine Ok.seq ?_
  obtain ⟨v1, hv1, h⟩ := bindS h
  refine Ok.seqw ⟨Cat.tab [(1, (.b 1 0)), (14, (vb v1))], [(1, .box [(.s (List.map c_api_Page p_d.Synced)), (.s (List.map c_api_Page p_d.Loose)), (vb p_d.Down)])]⟩ ?_ ?_
  · refine Ok.region Try.tok ?_
    refine ⟨_, rfl, ⟨_, List.length_map _, fun _ => ?_⟩⟩
    obtain ⟨c1, hg1, hv1⟩ := bindS hv1
    refine Br.itf hg1 (fun hb hg1 => ?_) fun hb hg1 => ?_
    · cases hg1
      cases hv1
      exact Wk.tab ⟨Le.refl _, Le.refl _, True.intro⟩ ⟨⟨_, rfl, .refl _⟩, True.intro⟩ rfl
    · refine ⟨_, rfl, ⟨_, List.length_map _, fun _ => ?_⟩⟩
      cases hg1
      cases hv1
      exact Wk.tab ⟨Le.refl _, Le.refl _, True.intro⟩ ⟨⟨_, rfl, .refl _⟩, True.intro⟩ rfl
  refine Ok.cond (d := 14) (b := v1) rfl h (fun hb h => ?_) fun hb h => ?_
  · refine Ok.seq ?_
    refine Ok.region Try.tok ?_
    refine Ok.wk (Wk.tab (L := [(2, (vb true))]) (H' := []) ⟨Le.refl _, True.intro⟩ True.intro rfl) ?_
    refine Ok.ret ?_
    cases h
    exact Fz.v
  · refine Ok.skip ?_
    refine Ok.seqj (fun v2 => ⟨Cat.tab [(1, (.b 1 0))], [(1, .box [(.s (List.map c_api_Page p_d.Synced)), (.s (List.map c_api_Page p_d.Loose)), (vb p_d.Down)])]⟩) (fun v2 => law25_Great_J1 p_d v2 = some r) ?_ ?_
    · refine Ok.seq ?_
      refine Ok.region Try.tok ?_
      refine Ok.wk (Wk.tab (L := [(1, (.b 1 0)), (3, (vi (0)))]) (H' := [(1, .box [(.s (List.map c_api_Page p_d.Synced)), (.s (List.map c_api_Page p_d.Loose)), (vb p_d.Down)])]) ⟨Le.refl _, Le.refl _, True.intro⟩ ⟨⟨_, rfl, .refl _⟩, True.intro⟩ rfl) ?_
      refine Ok.block ?_
      refine Ok.loop (fun (s1 : Int) => ⟨Cat.tab [(1, (.b 1 0)), (3, (vi s1))], [(1, .box [(.s (List.map c_api_Page p_d.Synced)), (.s (List.map c_api_Page p_d.Loose)), (vb p_d.Down)])]⟩) (law25_Great_B1 p_d) (s0 := 0) h (Wk.tab ⟨Le.refl _, Le.refl _, True.intro⟩ ⟨⟨_, rfl, .refl _⟩, True.intro⟩ rfl) ?_
      intro s1 y1 hB1 hy1
      unfold law25_Great_B1 at hB1
      refine Ok.seq ?_
      refine Ok.seq ?_
      refine Ok.region Try.tok ?_
      refine ⟨_, rfl, ⟨_, List.length_map _, fun _ => ?_⟩⟩
      refine Ok.wk (Wk.tab (L := [(1, (.b 1 0)), (3, (vi s1)), (19, (vb ((decide (s1 < (p_d.Synced.length : Int))))))]) (H' := [(1, .box [(.s (List.map c_api_Page p_d.Synced)), (.s (List.map c_api_Page p_d.Loose)), (vb p_d.Down)])]) ⟨Le.refl _, Le.refl _, Le.refl _, True.intro⟩ ⟨⟨_, rfl, .refl _⟩, True.intro⟩ rfl) ?_
      refine Ok.cond (d := 19) (b := (decide (s1 < (p_d.Synced.length : Int)))) rfl hB1 (fun hb hB1 => ?_) fun hb hB1 => ?_
      · refine Ok.skip ?_
        refine Ok.seq ?_
        refine Ok.block ?_
        refine Ok.seq ?_
        refine Ok.region Try.tok ?_
        obtain ⟨x1, hx1, hB1⟩ := bindS hB1
        refine ⟨_, rfl, ⟨_, idx_nat hx1, _, idx_row hx1, ⟨_, rfl, ⟨_, List.length_map _, fun _ => ?_⟩⟩⟩⟩
        refine Ok.wk (Wk.tab (L := [(1, (.b 1 0)), (3, (vi s1)), (29, (vb ((decide ((x1.Data.length : Int) > 200)))))]) (H' := [(1, .box [(.s (List.map c_api_Page p_d.Synced)), (.s (List.map c_api_Page p_d.Loose)), (vb p_d.Down)])]) ⟨Le.refl _, Le.refl _, Le.refl _, True.intro⟩ ⟨⟨_, rfl, .refl _⟩, True.intro⟩ rfl) ?_
        refine Ok.cond (d := 29) (b := (decide ((x1.Data.length : Int) > 200))) rfl hB1 (fun hb hB1 => ?_) fun hb hB1 => ?_
        · refine Ok.seq ?_
          refine Ok.region Try.tok ?_
          refine Ok.wk (Wk.tab (L := [(2, (vb true))]) (H' := []) ⟨Le.refl _, True.intro⟩ True.intro rfl) ?_
          refine Ok.ret ?_
          have hB1 := out_ret hB1 hy1
          cases hB1
          exact Fz.v
        · refine Ok.skip ?_
          refine Ok.region Try.tok ?_
          obtain ⟨hc1, hB1⟩ := chk_some hB1
          refine (Or.inl ⟨hc1, ?_⟩)
          exact ⟨_, (Option.some.inj hB1).symm, Wk.tab ⟨Le.refl _, Le.refl _, True.intro⟩ ⟨⟨_, rfl, .refl _⟩, True.intro⟩ rfl⟩
      · refine Ok.exit ?_
        have hB1 := out_ret hB1 hy1
        exact ⟨_, hB1, Wk.tab ⟨Le.refl _, True.intro⟩ ⟨⟨_, rfl, .refl _⟩, True.intro⟩ rfl⟩
    intro v2 h
    unfold law25_Great_J1 at h
    refine Ok.seqj (fun v3 => ⟨Cat.tab [(1, (.b 1 0))], [(1, .box [(.s (List.map c_api_Page p_d.Synced)), (.s (List.map c_api_Page p_d.Loose)), (vb p_d.Down)])]⟩) (fun v3 => law25_Great_J2 p_d v3 = some r) ?_ ?_
    · refine Ok.seq ?_
      refine Ok.region Try.tok ?_
      refine Ok.wk (Wk.tab (L := [(1, (.b 1 0)), (4, (vi (0)))]) (H' := [(1, .box [(.s (List.map c_api_Page p_d.Synced)), (.s (List.map c_api_Page p_d.Loose)), (vb p_d.Down)])]) ⟨Le.refl _, Le.refl _, True.intro⟩ ⟨⟨_, rfl, .refl _⟩, True.intro⟩ rfl) ?_
      refine Ok.block ?_
      refine Ok.loop (fun (s2 : Int) => ⟨Cat.tab [(1, (.b 1 0)), (4, (vi s2))], [(1, .box [(.s (List.map c_api_Page p_d.Synced)), (.s (List.map c_api_Page p_d.Loose)), (vb p_d.Down)])]⟩) (law25_Great_B2 p_d) (s0 := 0) h (Wk.tab ⟨Le.refl _, Le.refl _, True.intro⟩ ⟨⟨_, rfl, .refl _⟩, True.intro⟩ rfl) ?_
      intro s2 y2 hB2 hy2
      unfold law25_Great_B2 at hB2
      refine Ok.seq ?_
      refine Ok.seq ?_
      refine Ok.region Try.tok ?_
      refine ⟨_, rfl, ⟨_, List.length_map _, fun _ => ?_⟩⟩
      refine Ok.wk (Wk.tab (L := [(1, (.b 1 0)), (4, (vi s2)), (34, (vb ((decide (s2 < (p_d.Loose.length : Int))))))]) (H' := [(1, .box [(.s (List.map c_api_Page p_d.Synced)), (.s (List.map c_api_Page p_d.Loose)), (vb p_d.Down)])]) ⟨Le.refl _, Le.refl _, Le.refl _, True.intro⟩ ⟨⟨_, rfl, .refl _⟩, True.intro⟩ rfl) ?_
      refine Ok.cond (d := 34) (b := (decide (s2 < (p_d.Loose.length : Int)))) rfl hB2 (fun hb hB2 => ?_) fun hb hB2 => ?_
      · refine Ok.skip ?_
        refine Ok.seq ?_
        refine Ok.block ?_
        refine Ok.seq ?_
        refine Ok.region Try.tok ?_
        obtain ⟨x2, hx2, hB2⟩ := bindS hB2
        refine ⟨_, rfl, ⟨_, idx_nat hx2, _, idx_row hx2, ⟨_, rfl, ⟨_, List.length_map _, fun _ => ?_⟩⟩⟩⟩
        refine Ok.wk (Wk.tab (L := [(1, (.b 1 0)), (4, (vi s2)), (44, (vb ((decide ((x2.Data.length : Int) > 200)))))]) (H' := [(1, .box [(.s (List.map c_api_Page p_d.Synced)), (.s (List.map c_api_Page p_d.Loose)), (vb p_d.Down)])]) ⟨Le.refl _, Le.refl _, Le.refl _, True.intro⟩ ⟨⟨_, rfl, .refl _⟩, True.intro⟩ rfl) ?_
        refine Ok.cond (d := 44) (b := (decide ((x2.Data.length : Int) > 200))) rfl hB2 (fun hb hB2 => ?_) fun hb hB2 => ?_
        · refine Ok.seq ?_
          refine Ok.region Try.tok ?_
          refine Ok.wk (Wk.tab (L := [(2, (vb true))]) (H' := []) ⟨Le.refl _, True.intro⟩ True.intro rfl) ?_
          refine Ok.ret ?_
          have hB2 := out_ret hB2 hy2
          cases hB2
          exact Fz.v
        · refine Ok.skip ?_
          refine Ok.region Try.tok ?_
          obtain ⟨hc2, hB2⟩ := chk_some hB2
          refine (Or.inl ⟨hc2, ?_⟩)
          exact ⟨_, (Option.some.inj hB2).symm, Wk.tab ⟨Le.refl _, Le.refl _, True.intro⟩ ⟨⟨_, rfl, .refl _⟩, True.intro⟩ rfl⟩
      · refine Ok.exit ?_
        have hB2 := out_ret hB2 hy2
        exact ⟨_, hB2, Wk.tab ⟨Le.refl _, True.intro⟩ ⟨⟨_, rfl, .refl _⟩, True.intro⟩ rfl⟩
    intro v3 h
    unfold law25_Great_J2 at h
    refine Ok.seq ?_
    refine Ok.region Try.tok ?_
    obtain ⟨x3, hx3, h⟩ := bindS h
    refine ⟨_, rfl, ?_⟩
    refine CallOk.call (w_ref04_Right hx3) (LeL.refl _) ?_
    refine Ok.wk (Wk.tab (L := [(2, (vb ((!x3))))]) (H' := []) ⟨Le.refl _, True.intro⟩ True.intro rfl) ?_
    refine Ok.ret ?_
    cases h
    exact Fz.v

theorem w_law25_may {p_id : UInt8} {p_ver : Int} {p_data : List UInt8} {r : api_Copy} (h : law25_may p_id p_ver p_data = some r) : Pure Try.prog 25 [(vu p_id), (.v (.int .u16 p_ver)), (.s (List.map cU8 p_data))] (.a [(vi r.Id), (vi r.Ver), (.s (List.map cU8 r.Data)), (.s (List.map Go.Cat.encI r.Sums))]) := by
  refine pure_of_ok (n := 18) (c := (Try.f25.body.getD .skip)) Try.tok Try.func25 (by kernel_rfl) rfl rfl (Nat.le_of_ble_eq_true rfl) ?_
  unfold law25_may at h
  refine Ok.wk (Wk.tab (L := [(0, (vu p_id)), (1, (.v (.int .u16 p_ver))), (2, (.s (List.map cU8 p_data)))]) (H' := []) ⟨Le.refl _, Le.refl _, Le.refl _, True.intro⟩ True.intro rfl) ?_
  refine Ok.seq ?_
  refine Ok.region Try.tok ?_
  refine Ok.wk (Wk.tab (L := [(0, (vu p_id)), (1, (.v (.int .u16 p_ver))), (2, (.s (List.map cU8 p_data))), (6, (.b 6 0))]) (H' := [(6, .box [(vi (0)), (vi (0)), (.v (.slice none 0 0)), (.v (.slice none 0 0))])]) ⟨Le.refl _, Le.refl _, Le.refl _, Le.refl _, True.intro⟩ ⟨⟨_, rfl, .refl _⟩, True.intro⟩ rfl) ?_
  refine Ok.seq ?_
  refine Ok.region Try.tok ?_
  obtain ⟨hc1, h⟩ := chk_some h
  obtain ⟨x1, hx1, h⟩ := bindS h
  refine ⟨_, wrap_of_u8 (k := .i64) (by decide) _, ⟨(by decide), _, rfl, ⟨_, rfl, ⟨_, List.length_map _, fun _ => ⟨_, rfl, ⟨_, sl_nat hc1.1, Nat.zero_le _, sl_len hc1, rowsK (f := cU8) (K := 1) (fun _ => rfl) p_data, _, sl_take _ _ _, ?_⟩⟩⟩⟩⟩⟩
  refine CallOk.call (w_chunk_New hx1) (LeL.refl _) ?_
  refine ⟨_, rfl, ?_⟩
  refine Ok.wk (Wk.tab (L := [(6, (.b 6 0))]) (H' := [(6, .box [(vi x1.Id), (vi x1.Ver), (.s (List.map cU8 x1.Data)), (.s (List.map Go.Cat.encI x1.Sums))])]) ⟨Le.refl _, True.intro⟩ ⟨⟨_, rfl, .refl _⟩, True.intro⟩ rfl) ?_
  refine Ok.ret ?_
  cases h
  exact ⟨_, rfl, (Fz.imm rfl)⟩

theorem wo_disk_laid [Off] {p_l : List api_Page} {p_over : List api_Page} {r : (List api_Page)} (h : disk_laid p_l p_over = some r) : POwn Try.prog 50 [(.s (List.map c_api_Page p_l)), (.s (List.map c_api_Page p_over))] 59 2 (List.map c_api_Page r) := by
  refine pown_of_ok (n := 42) (c := (Try.f50.body.getD .skip)) Try.tok Try.func50 (by kernel_rfl) rfl rfl (Nat.le_of_ble_eq_true rfl) ?_
  unfold disk_laid at h
  refine Ok.wk (Wk.tab (L := [(0, (.s (List.map c_api_Page p_l))), (1, (.s (List.map c_api_Page p_over)))]) (H' := []) ⟨Le.refl _, Le.refl _, True.intro⟩ True.intro rfl) ?_
  refine Ok.seq ?_
  refine Ok.region Try.tok ?_
  refine Ok.wk (Wk.tab (L := [(0, (.s (List.map c_api_Page p_l))), (1, (.s (List.map c_api_Page p_over)))]) (H' := []) ⟨Le.refl _, Le.refl _, True.intro⟩ True.intro rfl) ?_
  refine Ok.seq ?_
  refine Ok.region Try.tok ?_
  refine Ok.wk (Wk.tab (L := [(0, (.s (List.map c_api_Page p_l))), (1, (.s (List.map c_api_Page p_over))), (5, (.m 11))]) (H' := [(11, .mp true (List.map (fun p => (p.1, c_api_Page p.2)) (([] : List (Int × api_Page)))))]) ⟨Le.refl _, Le.refl _, Le.refl _, True.intro⟩ ⟨⟨_, rfl, .refl _⟩, True.intro⟩ rfl) ?_
  obtain ⟨v1, hv1, h⟩ := bindS h
  refine Ok.seqw ⟨Cat.tab [(5, (.m 11))], [(11, .mp true (List.map (fun p => (p.1, c_api_Page p.2)) v1))]⟩ ?_ ?_
  · refine Ok.seq ?_
    refine Ok.region Try.tok ?_
    obtain ⟨x1, hx1, hv1⟩ := bindS hv1
    refine Or.inl ?_
    refine CallOk.call (w_slices_Concat_api_Page_api_Page hx1) (LeL.refl _) ?_
    refine ⟨_, List.length_map _, fun _ => ?_⟩
    refine Ok.wk (Wk.tab (L := [(5, (.m 11)), (15, (.s (List.map c_api_Page x1))), (16, (vi ((x1.length : Int)))), (17, (vi (0)))]) (H' := [(11, .mp true (List.map (fun p => (p.1, c_api_Page p.2)) (([] : List (Int × api_Page)))))]) ⟨Le.refl _, Le.refl _, Le.refl _, Le.refl _, True.intro⟩ ⟨⟨_, rfl, .refl _⟩, True.intro⟩ rfl) ?_
    refine Ok.block ?_
    refine Ok.loop (fun (s1 : Int × (List (Int × api_Page))) => ⟨Cat.tab [(5, (.m 11)), (15, (.s (List.map c_api_Page x1))), (16, (vi ((x1.length : Int)))), (17, (vi s1.1))], [(11, .mp true (List.map (fun p => (p.1, c_api_Page p.2)) s1.2))]⟩) (disk_laid_B1 x1) (s0 := (0, ([] : List (Int × api_Page)))) hv1 (Wk.tab ⟨Le.refl _, Le.refl _, Le.refl _, Le.refl _, True.intro⟩ ⟨⟨_, rfl, .refl _⟩, True.intro⟩ rfl) ?_
    intro s1 y1 hB1 hy1
    unfold disk_laid_B1 at hB1
    refine Ok.seq ?_
    refine Ok.region Try.tok ?_
    refine Ok.wk (Wk.tab (L := [(5, (.m 11)), (15, (.s (List.map c_api_Page x1))), (16, (vi ((x1.length : Int)))), (17, (vi s1.1)), (18, (vb ((decide (s1.1 < (x1.length : Int))))))]) (H' := [(11, .mp true (List.map (fun p => (p.1, c_api_Page p.2)) s1.2))]) ⟨Le.refl _, Le.refl _, Le.refl _, Le.refl _, Le.refl _, True.intro⟩ ⟨⟨_, rfl, .refl _⟩, True.intro⟩ rfl) ?_
    refine Ok.seq ?_
    refine Ok.cond (d := 18) (b := (decide (s1.1 < (x1.length : Int)))) rfl hB1 (fun hb hB1 => ?_) fun hb hB1 => ?_
    · refine Ok.skip ?_
      refine Ok.seq ?_
      refine Ok.block ?_
      refine Ok.seq ?_
      refine Ok.region Try.tok ?_
      obtain ⟨x2, hx2, hB1⟩ := bindS hB1
      refine ⟨_, idx_nat hx2, _, idx_row hx2, ⟨_, rfl, ⟨_, rfl, ?_⟩⟩⟩
      refine Ok.wk (Wk.tab (L := [(5, (.m 11)), (7, (.b 7 0)), (15, (.s (List.map c_api_Page x1))), (16, (vi ((x1.length : Int)))), (17, (vi s1.1))]) (H' := [(11, .mp true (List.map (fun p => (p.1, c_api_Page p.2)) s1.2)), (7, .box [(vi x2.At), (.s (List.map cU8 x2.Data))])]) ⟨Le.refl _, Le.refl _, Le.refl _, Le.refl _, Le.refl _, True.intro⟩ ⟨⟨_, rfl, .refl _⟩, ⟨_, rfl, .refl _⟩, True.intro⟩ rfl) ?_
      refine Ok.region Try.tok ?_
      obtain ⟨hc1, hB1⟩ := chk_some hB1
      refine ⟨_, rfl, ⟨_, rfl, ⟨hc1.1, Nat.lt_of_le_of_lt (Nat.le_of_eq (List.length_map _)) hc1.2, _, mset_map c_api_Page x2.At x2 s1.2, ?_⟩⟩⟩
      refine Ok.wk (Wk.tab (L := [(5, (.m 11)), (15, (.s (List.map c_api_Page x1))), (16, (vi ((x1.length : Int)))), (17, (vi s1.1))]) (H' := [(11, .mp true (List.map (fun p => (p.1, c_api_Page p.2)) ((mset x2.At x2 s1.2))))]) ⟨Le.refl _, Le.refl _, Le.refl _, Le.refl _, True.intro⟩ ⟨⟨_, rfl, .refl _⟩, True.intro⟩ rfl) ?_
      refine Ok.region Try.tok ?_
      obtain ⟨hc2, hB1⟩ := chk_some hB1
      refine (Or.inl ⟨hc2, ?_⟩)
      exact ⟨_, (Option.some.inj hB1).symm, Wk.tab ⟨Le.refl _, Le.refl _, Le.refl _, Le.refl _, True.intro⟩ ⟨⟨_, rfl, .refl _⟩, True.intro⟩ rfl⟩
    · refine Ok.exit ?_
      have hB1 := out_ret hB1 hy1
      cases hB1
      exact Wk.tab ⟨Le.refl _, True.intro⟩ ⟨⟨_, rfl, .refl _⟩, True.intro⟩ rfl
  refine Ok.seq ?_
  refine Ok.region Try.tok ?_
  refine Ok.wk (Wk.tab (L := [(5, (.m 11)), (8, (.v (.slice none 0 0)))]) (H' := [(11, .mp true (List.map (fun p => (p.1, c_api_Page p.2)) v1))]) ⟨Le.refl _, Le.refl _, True.intro⟩ ⟨⟨_, rfl, .refl _⟩, True.intro⟩ rfl) ?_
  obtain ⟨v2, hv2, h⟩ := bindS h
  refine Ok.seqw ⟨Cat.tab [(8, (.o 39))], [(39, .own 59 2 (List.map c_api_Page v2))]⟩ ?_ ?_
  · refine Ok.seq ?_
    refine Ok.region Try.tok ?_
    refine CallOk.keys (D := 27) Try.keysS83 Try.enters83 rfl rfl rfl ?_
    obtain ⟨hc3, hv2⟩ := chk_some hv2
    obtain ⟨x3, hx3, hv2⟩ := bindS hv2
    refine CallOk.sortedKeys (D := 27) (D2 := 28) Try.sortedS82_100 Try.enters82 rfl rfl (klen hc3) (ksort hx3) rfl ?_
    refine ⟨_, List.length_map _, fun _ => ?_⟩
    refine Ok.wk (Wk.tab (L := [(5, (.m 11)), (8, (.v (.slice none 0 0))), (28, (.o 28)), (29, (vi ((x3.length : Int)))), (30, (vi (0)))]) (H' := [(11, .mp true (List.map (fun p => (p.1, c_api_Page p.2)) v1)), (28, .own 3 1 (List.map Go.Cat.encI x3))]) ⟨Le.refl _, Le.refl _, Le.refl _, Le.refl _, Le.refl _, True.intro⟩ ⟨⟨_, rfl, .refl _⟩, ⟨_, rfl, .refl _⟩, True.intro⟩ rfl) ?_
    refine Ok.block ?_
    refine Ok.loop (fun (s2 : Int × (List api_Page)) => ⟨Cat.tab [(5, (.m 11)), (8, (.o 39)), (28, (.o 28)), (29, (vi ((x3.length : Int)))), (30, (vi s2.1))], [(11, .mp true (List.map (fun p => (p.1, c_api_Page p.2)) v1)), (39, .own 59 2 (List.map c_api_Page s2.2)), (28, .own 3 1 (List.map Go.Cat.encI x3))]⟩) (disk_laid_B2 x3 v1) (s0 := (0, [])) hv2 ((Wk.own0 (t := 8) (id := 39) (E := 59) (K := 2) rfl rfl).trans (Wk.tab ⟨Le.refl _, Le.refl _, Le.refl _, Le.refl _, Le.refl _, True.intro⟩ ⟨⟨_, rfl, .refl _⟩, ⟨_, rfl, .refl _⟩, ⟨_, rfl, .refl _⟩, True.intro⟩ rfl)) ?_
    intro s2 y2 hB2 hy2
    unfold disk_laid_B2 at hB2
    refine Ok.seq ?_
    refine Ok.region Try.tok ?_
    refine Ok.wk (Wk.tab (L := [(5, (.m 11)), (8, (.o 39)), (28, (.o 28)), (29, (vi ((x3.length : Int)))), (30, (vi s2.1)), (31, (vb ((decide (s2.1 < (x3.length : Int))))))]) (H' := [(11, .mp true (List.map (fun p => (p.1, c_api_Page p.2)) v1)), (39, .own 59 2 (List.map c_api_Page s2.2)), (28, .own 3 1 (List.map Go.Cat.encI x3))]) ⟨Le.refl _, Le.refl _, Le.refl _, Le.refl _, Le.refl _, Le.refl _, True.intro⟩ ⟨⟨_, rfl, .refl _⟩, ⟨_, rfl, .refl _⟩, ⟨_, rfl, .refl _⟩, True.intro⟩ rfl) ?_
    refine Ok.seq ?_
    refine Ok.cond (d := 31) (b := (decide (s2.1 < (x3.length : Int)))) rfl hB2 (fun hb hB2 => ?_) fun hb hB2 => ?_
    · refine Ok.skip ?_
      refine Ok.seq ?_
      refine Ok.block ?_
      refine Ok.seq ?_
      refine Ok.region Try.tok ?_
      obtain ⟨x4, hx4, hB2⟩ := bindS hB2
      refine ⟨_, idx_nat hx4, idx_ltm hx4, ⟨_, idx_row hx4, rfl, _, rfl, ?_⟩⟩
      refine Ok.wk (Wk.tab (L := [(5, (.m 11)), (8, (.o 39)), (10, (vi x4)), (28, (.o 28)), (29, (vi ((x3.length : Int)))), (30, (vi s2.1))]) (H' := [(11, .mp true (List.map (fun p => (p.1, c_api_Page p.2)) v1)), (39, .own 59 2 (List.map c_api_Page s2.2)), (28, .own 3 1 (List.map Go.Cat.encI x3))]) ⟨Le.refl _, Le.refl _, Le.refl _, Le.refl _, Le.refl _, Le.refl _, True.intro⟩ ⟨⟨_, rfl, .refl _⟩, ⟨_, rfl, .refl _⟩, ⟨_, rfl, .refl _⟩, True.intro⟩ rfl) ?_
      refine Ok.region Try.tok ?_
      obtain ⟨x5, hx5, hB2⟩ := bindS hB2
      obtain ⟨hc4, hB2⟩ := chk_some hB2
      refine ⟨_, lk_val c_api_Page (z := ((⟨0, []⟩ : api_Page) : api_Page)) hx5, Or.inl ⟨rowsLen_map (f := c_api_Page) (n := 2) (fun _ => rfl) ([x5]), app_b2 (f := c_api_Page) (l := s2.2) (l' := ([x5])) hc4, _, (List.map_append (f := c_api_Page) (l₁ := s2.2) (l₂ := ([x5]))).symm, ?_⟩⟩
      refine Ok.wk (Wk.tab (L := [(5, (.m 11)), (8, (.o 39)), (28, (.o 28)), (29, (vi ((x3.length : Int)))), (30, (vi s2.1))]) (H' := [(11, .mp true (List.map (fun p => (p.1, c_api_Page p.2)) v1)), (39, .own 59 2 (List.map c_api_Page ((s2.2 ++ [x5])))), (28, .own 3 1 (List.map Go.Cat.encI x3))]) ⟨Le.refl _, Le.refl _, Le.refl _, Le.refl _, Le.refl _, True.intro⟩ ⟨⟨_, rfl, .refl _⟩, ⟨_, rfl, .refl _⟩, ⟨_, rfl, .refl _⟩, True.intro⟩ rfl) ?_
      refine Ok.region Try.tok ?_
      obtain ⟨hc5, hB2⟩ := chk_some hB2
      refine (Or.inl ⟨hc5, ?_⟩)
      exact ⟨_, (Option.some.inj hB2).symm, Wk.tab ⟨Le.refl _, Le.refl _, Le.refl _, Le.refl _, Le.refl _, True.intro⟩ ⟨⟨_, rfl, .refl _⟩, ⟨_, rfl, .refl _⟩, ⟨_, rfl, .refl _⟩, True.intro⟩ rfl⟩
    · refine Ok.exit ?_
      have hB2 := out_ret hB2 hy2
      cases hB2
      exact Wk.tab ⟨Le.refl _, True.intro⟩ ⟨⟨_, rfl, .refl _⟩, True.intro⟩ rfl
  refine Ok.seq ?_
  refine Ok.region Try.tok ?_
  refine Ok.wk (Wk.tab (L := [(4, (.o 39))]) (H' := [(39, .own 59 2 (List.map c_api_Page v2))]) ⟨Le.refl _, True.intro⟩ ⟨⟨_, rfl, .refl _⟩, True.intro⟩ rfl) ?_
  refine Ok.ret ?_
  cases h
  exact (.inr ⟨_, rfl, rfl⟩)
theorem w_disk_laid [Off] {p_l : List api_Page} {p_over : List api_Page} {r : (List api_Page)} (h : disk_laid p_l p_over = some r) : Pure Try.prog 50 [(.s (List.map c_api_Page p_l)), (.s (List.map c_api_Page p_over))] (.s (List.map c_api_Page r)) := (wo_disk_laid h).pure

theorem w_disk_Sync [Off] {p_d : api_Disk} {r : api_Disk × Int} (h : disk_Sync p_d = some r) : Pure Try.prog 27 [(.a [(.s (List.map c_api_Page p_d.Synced)), (.s (List.map c_api_Page p_d.Loose)), (vb p_d.Down)])] (.t [(.a [(.s (List.map c_api_Page r.1.Synced)), (.s (List.map c_api_Page r.1.Loose)), (vb r.1.Down)]), (vi r.2)]) := by
  refine pure_of_ok (n := 13) (c := (Try.f27.body.getD .skip)) Try.tok Try.func27 (by kernel_rfl) rfl rfl (Nat.le_of_ble_eq_true rfl) ?_
  unfold disk_Sync at h
  refine Ok.wk (Wk.tab (L := [(0, (.a [(.s (List.map c_api_Page p_d.Synced)), (.s (List.map c_api_Page p_d.Loose)), (vb p_d.Down)]))]) (H' := []) ⟨Le.refl _, True.intro⟩ True.intro rfl) ?_
  refine Ok.seq ?_
  refine Ok.region Try.tok ?_
  refine Ok.wk (Wk.tab (L := [(1, (.b 1 0)), (2, (.b 2 0))]) (H' := [(1, .box [(.s (List.map c_api_Page p_d.Synced)), (.s (List.map c_api_Page p_d.Loose)), (vb p_d.Down)]), (2, .box [(.v (.slice none 0 0)), (.v (.slice none 0 0)), (vb false)])]) ⟨Le.refl _, Le.refl _, True.intro⟩ ⟨⟨_, rfl, .refl _⟩, ⟨_, rfl, .refl _⟩, True.intro⟩ rfl) ?_
  refine Ok.seq ?_
  refine Ok.seq ?_
  refine Ok.region Try.tok ?_
  refine ⟨_, rfl, ?_⟩
  refine Ok.wk (Wk.tab (L := [(1, (.b 1 0)), (2, (.b 2 0)), (5, (vb p_d.Down))]) (H' := [(1, .box [(.s (List.map c_api_Page p_d.Synced)), (.s (List.map c_api_Page p_d.Loose)), (vb p_d.Down)]), (2, .box [(.v (.slice none 0 0)), (.v (.slice none 0 0)), (vb false)])]) ⟨Le.refl _, Le.refl _, Le.refl _, True.intro⟩ ⟨⟨_, rfl, .refl _⟩, ⟨_, rfl, .refl _⟩, True.intro⟩ rfl) ?_
  refine Ok.cond (d := 5) (b := p_d.Down) rfl h (fun hb h => ?_) fun hb h => ?_
  · refine Ok.seq ?_
    refine Ok.region Try.tok ?_
    refine ⟨_, rfl, ⟨_, rfl, ?_⟩⟩
    refine Ok.wk (Wk.tab (L := [(2, (.b 2 0)), (3, (vi (40)))]) (H' := [(2, .box [(.s (List.map c_api_Page p_d.Synced)), (.s (List.map c_api_Page p_d.Loose)), (vb p_d.Down)])]) ⟨Le.refl _, Le.refl _, True.intro⟩ ⟨⟨_, rfl, .refl _⟩, True.intro⟩ rfl) ?_
    refine Ok.ret ?_
    cases h
    exact ⟨_, rfl, (Fz.t (.cons (Fz.imm rfl) (.cons Fz.v .nil)))⟩
  · refine Ok.skip ?_
    refine Ok.seq ?_
    refine Ok.region Try.tok ?_
    obtain ⟨x1, hx1, h⟩ := bindS h
    refine ⟨_, rfl, ⟨_, rfl, ?_⟩⟩
    refine CallOk.call (w_disk_laid hx1) (LeL.refl _) ?_
    refine ⟨_, rfl, ?_⟩
    refine Ok.wk (Wk.tab (L := [(2, (.b 2 0)), (3, (vi (0)))]) (H' := [(2, .box [(.s (List.map c_api_Page x1)), (.v (.slice none 0 0)), (vb false)])]) ⟨Le.refl _, Le.refl _, True.intro⟩ ⟨⟨_, rfl, .refl _⟩, True.intro⟩ rfl) ?_
    refine Ok.ret ?_
    cases h
    exact ⟨_, rfl, (Fz.t (.cons (Fz.a (.cons Fz.s (.cons Fz.nil (.cons Fz.v .nil)))) (.cons Fz.v .nil)))⟩

theorem w_disk_Rot_1 {p_p : api_Page} {p_a1_0 : Int} {r : Bool} (h : disk_Rot_1 p_p p_a1_0 = some r) : Pure Try.prog 57 [(.a [(vi p_p.At), (.s (List.map cU8 p_p.Data))]), (.p [(vi p_a1_0)])] (vb r) := by
  refine pure_of_ok (n := 8) (c := (Try.f57.body.getD .skip)) Try.tok Try.func57 (by kernel_rfl) rfl rfl (Nat.le_of_ble_eq_true rfl) ?_
  unfold disk_Rot_1 at h
  refine Ok.wk (Wk.tab (L := [(0, (.a [(vi p_p.At), (.s (List.map cU8 p_p.Data))])), (1, (.p [(vi p_a1_0)]))]) (H' := []) ⟨Le.refl _, Le.refl _, True.intro⟩ True.intro rfl) ?_
  refine Ok.seq ?_
  refine Ok.region Try.tok ?_
  refine Ok.wk (Wk.tab (L := [(1, (.p [(vi p_a1_0)])), (2, (.b 2 0))]) (H' := [(2, .box [(vi p_p.At), (.s (List.map cU8 p_p.Data))])]) ⟨Le.refl _, Le.refl _, True.intro⟩ ⟨⟨_, rfl, .refl _⟩, True.intro⟩ rfl) ?_
  refine Ok.seq ?_
  refine Ok.region Try.tok ?_
  refine ⟨_, rfl, ⟨_, rfl, ?_⟩⟩
  refine Ok.wk (Wk.tab (L := [(3, (vb ((p_p.At == p_a1_0))))]) (H' := []) ⟨Le.refl _, True.intro⟩ True.intro rfl) ?_
  refine Ok.ret ?_
  cases h
  exact Fz.v

theorem w_slices_IndexFunc_api_Page_api_Page__disk_Rot_1 {p_s : List api_Page} {p_f_c0_0 : Int} {r : Int} (h : slices_IndexFunc_api_Page_api_Page__disk_Rot_1 p_s p_f_c0_0 = some r) : Pure Try.prog 85 [(.s (List.map c_api_Page p_s)), (.c (.func 57) [] [(.p [(vi p_f_c0_0)])])] (vi r) := by
  refine pure_of_ok (n := 19) (c := (Try.f85.body.getD .skip)) Try.tok Try.func85 (by kernel_rfl) rfl rfl (Nat.le_of_ble_eq_true rfl) ?_
  unfold slices_IndexFunc_api_Page_api_Page__disk_Rot_1 at h
  refine Ok.wk (Wk.tab (L := [(0, (.s (List.map c_api_Page p_s))), (1, (.c (.func 57) [] [(.p [(vi p_f_c0_0)])]))]) (H' := []) ⟨Le.refl _, Le.refl _, True.intro⟩ True.intro rfl) ?_
  refine Ok.seq ?_
  refine Ok.region Try.tok ?_
  refine Ok.wk (Wk.tab (L := [(0, (.s (List.map c_api_Page p_s))), (1, (.c (.func 57) [] [(.p [(vi p_f_c0_0)])]))]) (H' := []) ⟨Le.refl _, Le.refl _, True.intro⟩ True.intro rfl) ?_
  refine Ok.seqj (fun v1 => ⟨Cat.tab [], []⟩) (fun v1 => slices_IndexFunc_api_Page_api_Page__disk_Rot_1_J1 v1 = some r) ?_ ?_
  · refine Ok.seq ?_
    refine Ok.region Try.tok ?_
    refine ⟨_, List.length_map _, fun _ => ?_⟩
    refine Ok.wk (Wk.tab (L := [(0, (.s (List.map c_api_Page p_s))), (1, (.c (.func 57) [] [(.p [(vi p_f_c0_0)])])), (7, (vi ((p_s.length : Int)))), (8, (vi (0)))]) (H' := []) ⟨Le.refl _, Le.refl _, Le.refl _, Le.refl _, True.intro⟩ True.intro rfl) ?_
    refine Ok.block ?_
    refine Ok.loop (fun (s1 : Int) => ⟨Cat.tab [(0, (.s (List.map c_api_Page p_s))), (1, (.c (.func 57) [] [(.p [(vi p_f_c0_0)])])), (7, (vi ((p_s.length : Int)))), (8, (vi s1))], []⟩) (slices_IndexFunc_api_Page_api_Page__disk_Rot_1_B1 p_s p_f_c0_0) (s0 := 0) h (Wk.tab ⟨Le.refl _, Le.refl _, Le.refl _, Le.refl _, True.intro⟩ True.intro rfl) ?_
    intro s1 y1 hB1 hy1
    unfold slices_IndexFunc_api_Page_api_Page__disk_Rot_1_B1 at hB1
    refine Ok.seq ?_
    refine Ok.region Try.tok ?_
    refine Ok.wk (Wk.tab (L := [(0, (.s (List.map c_api_Page p_s))), (1, (.c (.func 57) [] [(.p [(vi p_f_c0_0)])])), (7, (vi ((p_s.length : Int)))), (8, (vi s1)), (9, (vb ((decide (s1 < (p_s.length : Int))))))]) (H' := []) ⟨Le.refl _, Le.refl _, Le.refl _, Le.refl _, Le.refl _, True.intro⟩ True.intro rfl) ?_
    refine Ok.seq ?_
    refine Ok.cond (d := 9) (b := (decide (s1 < (p_s.length : Int)))) rfl hB1 (fun hb hB1 => ?_) fun hb hB1 => ?_
    · refine Ok.skip ?_
      refine Ok.seq ?_
      refine Ok.block ?_
      refine Ok.seq ?_
      refine Ok.region Try.tok ?_
      refine Ok.wk (Wk.tab (L := [(0, (.s (List.map c_api_Page p_s))), (1, (.c (.func 57) [] [(.p [(vi p_f_c0_0)])])), (5, (vi s1)), (7, (vi ((p_s.length : Int)))), (8, (vi s1))]) (H' := []) ⟨Le.refl _, Le.refl _, Le.refl _, Le.refl _, Le.refl _, True.intro⟩ True.intro rfl) ?_
      refine Ok.seq ?_
      refine Ok.region Try.tok ?_
      obtain ⟨x1, hx1, hB1⟩ := bindS hB1
      obtain ⟨x2, hx2, hB1⟩ := bindS hB1
      refine ⟨_, idx_nat hx1, _, idx_row hx1, ⟨_, rfl, ?_⟩⟩
      refine CallOk.call (w_disk_Rot_1 hx2) (LeL.refl _) ?_
      refine Ok.wk (Wk.tab (L := [(0, (.s (List.map c_api_Page p_s))), (1, (.c (.func 57) [] [(.p [(vi p_f_c0_0)])])), (5, (vi s1)), (7, (vi ((p_s.length : Int)))), (8, (vi s1)), (16, (vb x2))]) (H' := []) ⟨Le.refl _, Le.refl _, Le.refl _, Le.refl _, Le.refl _, Le.refl _, True.intro⟩ True.intro rfl) ?_
      refine Ok.cond (d := 16) (b := x2) rfl hB1 (fun hb hB1 => ?_) fun hb hB1 => ?_
      · refine Ok.seq ?_
        refine Ok.region Try.tok ?_
        refine Ok.wk (Wk.tab (L := [(4, (vi s1))]) (H' := []) ⟨Le.refl _, True.intro⟩ True.intro rfl) ?_
        refine Ok.ret ?_
        have hB1 := out_ret hB1 hy1
        cases hB1
        exact Fz.v
      · refine Ok.skip ?_
        refine Ok.region Try.tok ?_
        obtain ⟨hc1, hB1⟩ := chk_some hB1
        refine (Or.inl ⟨hc1, ?_⟩)
        exact ⟨_, (Option.some.inj hB1).symm, Wk.tab ⟨Le.refl _, Le.refl _, Le.refl _, Le.refl _, True.intro⟩ True.intro rfl⟩
    · refine Ok.exit ?_
      have hB1 := out_ret hB1 hy1
      exact ⟨_, hB1, Wk.tab True.intro True.intro rfl⟩
  intro v1 h
  unfold slices_IndexFunc_api_Page_api_Page__disk_Rot_1_J1 at h
  refine Ok.seq ?_
  refine Ok.region Try.tok ?_
  refine Ok.wk (Wk.tab (L := [(4, (vi ((-1))))]) (H' := []) ⟨Le.refl _, True.intro⟩ True.intro rfl) ?_
  refine Ok.ret ?_
  cases h
  exact Fz.v

theorem w_disk_find_api_Page__disk_Rot_1 {p_l : List api_Page} {p_is_c0 : Int} {r : Int} (h : disk_find_api_Page__disk_Rot_1 p_l p_is_c0 = some r) : Pure Try.prog 54 [(.s (List.map c_api_Page p_l)), (.c (.func 57) [] [(.p [(vi p_is_c0)])])] (vi r) := by
  refine pure_of_ok (n := 8) (c := (Try.f54.body.getD .skip)) Try.tok Try.func54 (by kernel_rfl) rfl rfl (Nat.le_of_ble_eq_true rfl) ?_
  unfold disk_find_api_Page__disk_Rot_1 at h
  refine Ok.wk (Wk.tab (L := [(0, (.s (List.map c_api_Page p_l))), (1, (.c (.func 57) [] [(.p [(vi p_is_c0)])]))]) (H' := []) ⟨Le.refl _, Le.refl _, True.intro⟩ True.intro rfl) ?_
  refine Ok.seq ?_
  refine Ok.region Try.tok ?_
  refine Ok.wk (Wk.tab (L := [(0, (.s (List.map c_api_Page p_l))), (1, (.c (.func 57) [] [(.p [(vi p_is_c0)])]))]) (H' := []) ⟨Le.refl _, Le.refl _, True.intro⟩ True.intro rfl) ?_
  refine Ok.seq ?_
  refine Ok.region Try.tok ?_
  obtain ⟨x1, hx1, h⟩ := bindS h
  refine CallOk.call (w_slices_IndexFunc_api_Page_api_Page__disk_Rot_1 hx1) (LeL.refl _) ?_
  refine Ok.wk (Wk.tab (L := [(4, (vi x1))]) (H' := []) ⟨Le.refl _, True.intro⟩ True.intro rfl) ?_
  refine Ok.ret ?_
  cases h
  exact Fz.v

theorem w_disk_Rot {p_d : api_Disk} {p_at : Int} {p_bit : Int} {r : api_Disk} (h : disk_Rot p_d p_at p_bit = some r) : Pure Try.prog 31 [(.a [(.s (List.map c_api_Page p_d.Synced)), (.s (List.map c_api_Page p_d.Loose)), (vb p_d.Down)]), (vi p_at), (vi p_bit)] (.a [(.s (List.map c_api_Page r.Synced)), (.s (List.map c_api_Page r.Loose)), (vb r.Down)]) := by
  refine pure_of_ok (n := 60) (c := (Try.f31.body.getD .skip)) Try.tok Try.func31 (by kernel_rfl) rfl rfl (Nat.le_of_ble_eq_true rfl) ?_
  unfold disk_Rot at h
  refine Ok.wk (Wk.tab (L := [(0, (.a [(.s (List.map c_api_Page p_d.Synced)), (.s (List.map c_api_Page p_d.Loose)), (vb p_d.Down)])), (1, (vi p_at)), (2, (vi p_bit))]) (H' := []) ⟨Le.refl _, Le.refl _, Le.refl _, True.intro⟩ True.intro rfl) ?_
  refine Ok.seq ?_
  refine Ok.region Try.tok ?_
  refine Ok.wk (Wk.tab (L := [(2, (vi p_bit)), (3, (.b 3 0)), (4, (.b 4 0)), (6, (.b 6 0))]) (H' := [(3, .box [(.s (List.map c_api_Page p_d.Synced)), (.s (List.map c_api_Page p_d.Loose)), (vb p_d.Down)]), (4, .box [(vi p_at)]), (6, .box [(.v (.slice none 0 0)), (.v (.slice none 0 0)), (vb false)])]) ⟨Le.refl _, Le.refl _, Le.refl _, Le.refl _, True.intro⟩ ⟨⟨_, rfl, .refl _⟩, ⟨_, rfl, .refl _⟩, ⟨_, rfl, .refl _⟩, True.intro⟩ rfl) ?_
  refine Ok.seq ?_
  refine Ok.region Try.tok ?_
  obtain ⟨x1, hx1, h⟩ := bindS h
  refine ⟨_, rfl, ?_⟩
  refine CallOk.borrow (w_disk_find_api_Page__disk_Rot_1 hx1) (.cons Fz.s (.cons (Fz.c .nil (.cons (Fz.b rfl rfl) .nil)) (.nil))) rfl ?_
  refine Ok.wk (Wk.tab (L := [(2, (vi p_bit)), (3, (.b 3 0)), (6, (.b 6 0)), (7, (vi x1))]) (H' := [(3, .box [(.s (List.map c_api_Page p_d.Synced)), (.s (List.map c_api_Page p_d.Loose)), (vb p_d.Down)]), (6, .box [(.v (.slice none 0 0)), (.v (.slice none 0 0)), (vb false)])]) ⟨Le.refl _, Le.refl _, Le.refl _, Le.refl _, True.intro⟩ ⟨⟨_, rfl, .refl _⟩, ⟨_, rfl, .refl _⟩, True.intro⟩ rfl) ?_
  refine Ok.seq ?_
  obtain ⟨v1, hv1, h⟩ := bindS h
  refine Ok.seqw ⟨Cat.tab [(2, (vi p_bit)), (3, (.b 3 0)), (6, (.b 6 0)), (7, (vi x1)), (30, (vb v1))], [(3, .box [(.s (List.map c_api_Page p_d.Synced)), (.s (List.map c_api_Page p_d.Loose)), (vb p_d.Down)]), (6, .box [(.v (.slice none 0 0)), (.v (.slice none 0 0)), (vb false)])]⟩ ?_ ?_
  · refine Ok.region Try.tok ?_
    obtain ⟨c1, hg1, hv1⟩ := bindS hv1
    refine Br.itf hg1 (fun hb hg1 => ?_) fun hb hg1 => ?_
    · cases hg1
      obtain ⟨c2, hg2, hv1⟩ := bindS hv1
      replace hg2 := iteT hg2
      cases hg2
      cases hv1
      exact Wk.tab ⟨Le.refl _, Le.refl _, Le.refl _, Le.refl _, Le.refl _, True.intro⟩ ⟨⟨_, rfl, .refl _⟩, ⟨_, rfl, .refl _⟩, True.intro⟩ rfl
    · cases hg1
      obtain ⟨c2, hg3, hv1⟩ := bindS hv1
      refine Br.itf hg3 (fun hb hg3 => ?_) fun hb hg3 => ?_
      · cases hg3
        cases hv1
        exact Wk.tab ⟨Le.refl _, Le.refl _, Le.refl _, Le.refl _, Le.refl _, True.intro⟩ ⟨⟨_, rfl, .refl _⟩, ⟨_, rfl, .refl _⟩, True.intro⟩ rfl
      · obtain ⟨x2, hx2, hg3⟩ := bindS hg3
        obtain ⟨hc1, hg3⟩ := chk_some hg3
        refine ⟨_, rfl, ⟨_, idx_nat hx2, _, idx_row hx2, ⟨_, rfl, ⟨_, List.length_map _, fun _ => (Or.inl ⟨hc1, ?_⟩)⟩⟩⟩⟩
        cases hg3
        cases hv1
        exact Wk.tab ⟨Le.refl _, Le.refl _, Le.refl _, Le.refl _, Le.refl _, True.intro⟩ ⟨⟨_, rfl, .refl _⟩, ⟨_, rfl, .refl _⟩, True.intro⟩ rfl
  refine Ok.cond (d := 30) (b := v1) rfl h (fun hb h => ?_) fun hb h => ?_
  · refine Ok.seq ?_
    refine Ok.region Try.tok ?_
    refine ⟨_, rfl, ⟨_, rfl, ?_⟩⟩
    refine Ok.wk (Wk.tab (L := [(6, (.b 6 0))]) (H' := [(6, .box [(.s (List.map c_api_Page p_d.Synced)), (.s (List.map c_api_Page p_d.Loose)), (vb p_d.Down)])]) ⟨Le.refl _, True.intro⟩ ⟨⟨_, rfl, .refl _⟩, True.intro⟩ rfl) ?_
    refine Ok.ret ?_
    cases h
    exact ⟨_, rfl, (Fz.imm rfl)⟩
  · refine Ok.skip ?_
    refine Ok.seq ?_
    refine Ok.region Try.tok ?_
    obtain ⟨x3, hx3, h⟩ := bindS h
    obtain ⟨x4, hx4, h⟩ := bindS h
    refine ⟨_, rfl, ⟨_, idx_nat hx3, _, idx_row hx3, ⟨_, rfl, ?_⟩⟩⟩
    refine CallOk.own (D := 38) (wo_bytes_Clone hx4) (LeL.refl _) rfl ?_
    refine Ok.wk (Wk.tab (L := [(2, (vi p_bit)), (3, (.b 3 0)), (6, (.b 6 0)), (7, (vi x1)), (8, (.o 38))]) (H' := [(3, .box [(.s (List.map c_api_Page p_d.Synced)), (.s (List.map c_api_Page p_d.Loose)), (vb p_d.Down)]), (6, .box [(.v (.slice none 0 0)), (.v (.slice none 0 0)), (vb false)]), (38, .own 5 1 (List.map cU8 x4))]) ⟨Le.refl _, Le.refl _, Le.refl _, Le.refl _, Le.refl _, True.intro⟩ ⟨⟨_, rfl, .refl _⟩, ⟨_, rfl, .refl _⟩, ⟨_, rfl, .refl _⟩, True.intro⟩ rfl) ?_
    refine Ok.seq ?_
    refine Ok.draw (m := 10) Try.tok Try.mixed (by kernel_rfl) ?_
    obtain ⟨x5, hx5, h⟩ := bindS h
    obtain ⟨hc2, h⟩ := chk_some h
    obtain ⟨x6, hx6, h⟩ := bindS h
    refine ⟨_, rfl, ⟨_, rfl, ⟨_, ⟨(by decide), _, rfl, rfl⟩, ⟨_, ⟨_, idx_nat hx5, idx_ltm hx5, rfl⟩, ⟨_, ⟨_, idx_row hx5, rfl, _, rfl, rfl⟩, ⟨_, rfl, ⟨_, ⟨(by decide), _, rfl, rfl⟩, ⟨_, ⟨hc2, _, b8_shl _ _, rfl⟩, ⟨_, ⟨_, b8_xor x5 ((toU8 (shlK .u8 (1) ((Int.tmod p_bit (8)))))), rfl⟩, ⟨_, ⟨_, idx_nat hx6, idx_ltm hx6, rfl⟩, ⟨_, idx_row hx6, rfl, _, rfl, _, set_row (f := cU8) (x := (x5 ^^^ (toU8 (shlK .u8 (1) ((Int.tmod p_bit (8))))))), ?_⟩⟩⟩⟩⟩⟩⟩⟩⟩⟩⟩
    refine Ok.wk (Wk.tab (L := [(3, (.b 3 0)), (6, (.b 6 0)), (7, (vi x1)), (8, (.o 38))]) (H' := [(3, .box [(.s (List.map c_api_Page p_d.Synced)), (.s (List.map c_api_Page p_d.Loose)), (vb p_d.Down)]), (6, .box [(.v (.slice none 0 0)), (.v (.slice none 0 0)), (vb false)]), (38, .own 5 1 (List.map cU8 ((x4.set ((quoK .i64 p_bit (8))).toNat (x5 ^^^ (toU8 (shlK .u8 (1) ((Int.tmod p_bit (8))))))))))]) ⟨Le.refl _, Le.refl _, Le.refl _, Le.refl _, True.intro⟩ ⟨⟨_, rfl, .refl _⟩, ⟨_, rfl, .refl _⟩, ⟨_, rfl, .refl _⟩, True.intro⟩ rfl) ?_
    refine Ok.seq ?_
    refine Ok.region Try.tok ?_
    obtain ⟨x7, hx7, h⟩ := bindS h
    refine ⟨_, rfl, ?_⟩
    refine CallOk.own (D := 51) (wo_slices_Clone_api_Page_api_Page hx7) (LeL.refl _) rfl ?_
    refine ⟨_, rfl, ?_⟩
    refine Ok.wk (Wk.tab (L := [(3, (.b 3 0)), (6, (.b 6 0)), (7, (vi x1)), (8, (.o 38))]) (H' := [(3, .box [(.o 51), (.s (List.map c_api_Page p_d.Loose)), (vb p_d.Down)]), (51, .own 59 2 (List.map c_api_Page x7)), (6, .box [(.v (.slice none 0 0)), (.v (.slice none 0 0)), (vb false)]), (38, .own 5 1 (List.map cU8 ((x4.set ((quoK .i64 p_bit (8))).toNat (x5 ^^^ (toU8 (shlK .u8 (1) ((Int.tmod p_bit (8))))))))))]) ⟨Le.refl _, Le.refl _, Le.refl _, Le.refl _, True.intro⟩ ⟨⟨_, rfl, .refl _⟩, ⟨_, rfl, .refl _⟩, ⟨_, rfl, .refl _⟩, ⟨_, rfl, .refl _⟩, True.intro⟩ rfl) ?_
    refine Ok.seq ?_
    refine Ok.wk (Wk.freeze (id := 38) rfl) ?_
    refine Ok.region Try.tok ?_
    obtain ⟨x8, hx8, h⟩ := bindS h
    refine ⟨_, rfl, ⟨_, idx_nat hx8, idx_ltm hx8, ⟨_, idx_row hx8, rfl, _, rfl, _, set_row (f := c_api_Page) (x := (⟨x8.At, (x4.set ((quoK .i64 p_bit (8))).toNat (x5 ^^^ (toU8 (shlK .u8 (1) ((Int.tmod p_bit (8)))))))⟩ : api_Page)), ?_⟩⟩⟩
    refine Ok.wk (Wk.tab (L := [(3, (.b 3 0)), (6, (.b 6 0))]) (H' := [(3, .box [(.o 51), (.s (List.map c_api_Page p_d.Loose)), (vb p_d.Down)]), (51, .own 59 2 (List.map c_api_Page ((x7.set x1.toNat (⟨x8.At, (x4.set ((quoK .i64 p_bit (8))).toNat (x5 ^^^ (toU8 (shlK .u8 (1) ((Int.tmod p_bit (8)))))))⟩ : api_Page))))), (6, .box [(.v (.slice none 0 0)), (.v (.slice none 0 0)), (vb false)])]) ⟨Le.refl _, Le.refl _, True.intro⟩ ⟨⟨_, rfl, .refl _⟩, ⟨_, rfl, .refl _⟩, ⟨_, rfl, .refl _⟩, True.intro⟩ rfl) ?_
    refine Ok.seq ?_
    refine Ok.region Try.tok ?_
    refine ⟨_, rfl, ⟨_, rfl, ?_⟩⟩
    refine Ok.wk (Wk.tab (L := [(6, (.b 6 0))]) (H' := [(6, .box [(.o 51), (.s (List.map c_api_Page p_d.Loose)), (vb p_d.Down)]), (51, .own 59 2 (List.map c_api_Page ((x7.set x1.toNat (⟨x8.At, (x4.set ((quoK .i64 p_bit (8))).toNat (x5 ^^^ (toU8 (shlK .u8 (1) ((Int.tmod p_bit (8)))))))⟩ : api_Page)))))]) ⟨Le.refl _, True.intro⟩ ⟨⟨_, rfl, .refl _⟩, ⟨_, rfl, .refl _⟩, True.intro⟩ rfl) ?_
    refine Ok.ret ?_
    cases h
    exact ⟨_, rfl, (Fz.a (.cons (Fz.o rfl) (.cons Fz.s (.cons Fz.v .nil))))⟩

theorem w_law25_has {p_l : List Int} {p_x : Int} {r : Bool} (h : law25_has p_l p_x = some r) : Pure Try.prog 26 [(.s (List.map Go.Cat.encI p_l)), (vi p_x)] (vb r) := by
  refine pure_of_ok (n := 18) (c := (Try.f26.body.getD .skip)) Try.tok Try.func26 (by kernel_rfl) rfl rfl (Nat.le_of_ble_eq_true rfl) ?_
  unfold law25_has at h
  refine Ok.wk (Wk.tab (L := [(0, (.s (List.map Go.Cat.encI p_l))), (1, (vi p_x))]) (H' := []) ⟨Le.refl _, Le.refl _, True.intro⟩ True.intro rfl) ?_
  refine Ok.seq ?_
  refine Ok.region Try.tok ?_
  refine Ok.wk (Wk.tab (L := [(0, (.s (List.map Go.Cat.encI p_l))), (1, (vi p_x))]) (H' := []) ⟨Le.refl _, Le.refl _, True.intro⟩ True.intro rfl) ?_
  refine Ok.seqj (fun v1 => ⟨Cat.tab [], []⟩) (fun v1 => law25_has_J1 v1 = some r) ?_ ?_
  · refine Ok.seq ?_
    refine Ok.region Try.tok ?_
    refine Ok.wk (Wk.tab (L := [(0, (.s (List.map Go.Cat.encI p_l))), (1, (vi p_x)), (5, (vi (0)))]) (H' := []) ⟨Le.refl _, Le.refl _, Le.refl _, True.intro⟩ True.intro rfl) ?_
    refine Ok.block ?_
    refine Ok.loop (fun (s1 : Int) => ⟨Cat.tab [(0, (.s (List.map Go.Cat.encI p_l))), (1, (vi p_x)), (5, (vi s1))], []⟩) (law25_has_B1 p_l p_x) (s0 := 0) h (Wk.tab ⟨Le.refl _, Le.refl _, Le.refl _, True.intro⟩ True.intro rfl) ?_
    intro s1 y1 hB1 hy1
    unfold law25_has_B1 at hB1
    refine Ok.seq ?_
    refine Ok.seq ?_
    refine Ok.region Try.tok ?_
    refine ⟨_, List.length_map _, fun _ => ?_⟩
    refine Ok.wk (Wk.tab (L := [(0, (.s (List.map Go.Cat.encI p_l))), (1, (vi p_x)), (5, (vi s1)), (9, (vb ((decide (s1 < (p_l.length : Int))))))]) (H' := []) ⟨Le.refl _, Le.refl _, Le.refl _, Le.refl _, True.intro⟩ True.intro rfl) ?_
    refine Ok.cond (d := 9) (b := (decide (s1 < (p_l.length : Int)))) rfl hB1 (fun hb hB1 => ?_) fun hb hB1 => ?_
    · refine Ok.skip ?_
      refine Ok.seq ?_
      refine Ok.block ?_
      refine Ok.seq ?_
      refine Ok.region Try.tok ?_
      obtain ⟨x1, hx1, hB1⟩ := bindS hB1
      refine ⟨_, idx_nat hx1, _, idx_row hx1, ⟨_, rfl, ?_⟩⟩
      refine Ok.wk (Wk.tab (L := [(0, (.s (List.map Go.Cat.encI p_l))), (1, (vi p_x)), (5, (vi s1)), (17, (vb ((x1 == p_x))))]) (H' := []) ⟨Le.refl _, Le.refl _, Le.refl _, Le.refl _, True.intro⟩ True.intro rfl) ?_
      refine Ok.cond (d := 17) (b := (x1 == p_x)) rfl hB1 (fun hb hB1 => ?_) fun hb hB1 => ?_
      · refine Ok.seq ?_
        refine Ok.region Try.tok ?_
        refine Ok.wk (Wk.tab (L := [(4, (vb true))]) (H' := []) ⟨Le.refl _, True.intro⟩ True.intro rfl) ?_
        refine Ok.ret ?_
        have hB1 := out_ret hB1 hy1
        cases hB1
        exact Fz.v
      · refine Ok.skip ?_
        refine Ok.region Try.tok ?_
        obtain ⟨hc1, hB1⟩ := chk_some hB1
        refine (Or.inl ⟨hc1, ?_⟩)
        exact ⟨_, (Option.some.inj hB1).symm, Wk.tab ⟨Le.refl _, Le.refl _, Le.refl _, True.intro⟩ True.intro rfl⟩
    · refine Ok.exit ?_
      have hB1 := out_ret hB1 hy1
      exact ⟨_, hB1, Wk.tab True.intro True.intro rfl⟩
  intro v1 h
  unfold law25_has_J1 at h
  refine Ok.seq ?_
  refine Ok.region Try.tok ?_
  refine Ok.wk (Wk.tab (L := [(4, (vb false))]) (H' := []) ⟨Le.refl _, True.intro⟩ True.intro rfl) ?_
  refine Ok.ret ?_
  cases h
  exact Fz.v

theorem w_ref02_Bytes {p_a : List UInt8} {p_b : List UInt8} {r : Bool} (h : ref02_Bytes p_a p_b = some r) : Pure Try.prog 45 [(.s (List.map cU8 p_a)), (.s (List.map cU8 p_b))] (vb r) := by
  refine pure_of_ok (n := 26) (c := (Try.f45.body.getD .skip)) Try.tok Try.func45 (by kernel_rfl) rfl rfl (Nat.le_of_ble_eq_true rfl) ?_
  unfold ref02_Bytes at h
  refine Ok.wk (Wk.tab (L := [(0, (.s (List.map cU8 p_a))), (1, (.s (List.map cU8 p_b)))]) (H' := []) ⟨Le.refl _, Le.refl _, True.intro⟩ True.intro rfl) ?_
  refine Ok.seq ?_
  refine Ok.region Try.tok ?_
  refine Ok.wk (Wk.tab (L := [(0, (.s (List.map cU8 p_a))), (1, (.s (List.map cU8 p_b)))]) (H' := []) ⟨Le.refl _, Le.refl _, True.intro⟩ True.intro rfl) ?_
  refine Ok.seq ?_
  refine Ok.seq ?_
  refine Ok.region Try.tok ?_
  refine ⟨_, List.length_map _, fun _ => ⟨_, List.length_map _, fun _ => ?_⟩⟩
  refine Ok.wk (Wk.tab (L := [(0, (.s (List.map cU8 p_a))), (1, (.s (List.map cU8 p_b))), (10, (vb (((p_a.length : Int) != (p_b.length : Int)))))]) (H' := []) ⟨Le.refl _, Le.refl _, Le.refl _, True.intro⟩ True.intro rfl) ?_
  refine Ok.cond (d := 10) (b := ((p_a.length : Int) != (p_b.length : Int))) rfl h (fun hb h => ?_) fun hb h => ?_
  · refine Ok.seq ?_
    refine Ok.region Try.tok ?_
    refine Ok.wk (Wk.tab (L := [(4, (vb false))]) (H' := []) ⟨Le.refl _, True.intro⟩ True.intro rfl) ?_
    refine Ok.ret ?_
    cases h
    exact Fz.v
  · refine Ok.skip ?_
    refine Ok.seqj (fun v1 => ⟨Cat.tab [], []⟩) (fun v1 => ref02_Bytes_J1 v1 = some r) ?_ ?_
    · refine Ok.seq ?_
      refine Ok.region Try.tok ?_
      refine Ok.wk (Wk.tab (L := [(0, (.s (List.map cU8 p_a))), (1, (.s (List.map cU8 p_b))), (5, (vi (0)))]) (H' := []) ⟨Le.refl _, Le.refl _, Le.refl _, True.intro⟩ True.intro rfl) ?_
      refine Ok.block ?_
      refine Ok.loop (fun (s1 : Int) => ⟨Cat.tab [(0, (.s (List.map cU8 p_a))), (1, (.s (List.map cU8 p_b))), (5, (vi s1))], []⟩) (ref02_Bytes_B1 p_a p_b) (s0 := 0) h (Wk.tab ⟨Le.refl _, Le.refl _, Le.refl _, True.intro⟩ True.intro rfl) ?_
      intro s1 y1 hB1 hy1
      unfold ref02_Bytes_B1 at hB1
      refine Ok.seq ?_
      refine Ok.seq ?_
      refine Ok.region Try.tok ?_
      refine ⟨_, List.length_map _, fun _ => ?_⟩
      refine Ok.wk (Wk.tab (L := [(0, (.s (List.map cU8 p_a))), (1, (.s (List.map cU8 p_b))), (5, (vi s1)), (14, (vb ((decide (s1 < (p_a.length : Int))))))]) (H' := []) ⟨Le.refl _, Le.refl _, Le.refl _, Le.refl _, True.intro⟩ True.intro rfl) ?_
      refine Ok.cond (d := 14) (b := (decide (s1 < (p_a.length : Int)))) rfl hB1 (fun hb hB1 => ?_) fun hb hB1 => ?_
      · refine Ok.skip ?_
        refine Ok.seq ?_
        refine Ok.block ?_
        refine Ok.seq ?_
        refine Ok.draw (m := 9) Try.tok Try.mixed (by kernel_rfl) ?_
        obtain ⟨x1, hx1, hB1⟩ := bindS hB1
        obtain ⟨x2, hx2, hB1⟩ := bindS hB1
        refine ⟨_, rfl, ⟨_, rfl, ⟨_, ⟨_, idx_nat hx1, _, idx_row hx1, rfl⟩, ⟨_, ⟨_, rfl, rfl⟩, ⟨_, rfl, ⟨_, rfl, ⟨_, ⟨_, idx_nat hx2, _, idx_row hx2, rfl⟩, ⟨_, ⟨_, rfl, rfl⟩, ⟨_, rfl, ?_⟩⟩⟩⟩⟩⟩⟩⟩⟩
        refine Ok.wk (Wk.tab (L := [(0, (.s (List.map cU8 p_a))), (1, (.s (List.map cU8 p_b))), (5, (vi s1)), (25, (vb (((x1.toNat : Int) != (x2.toNat : Int)))))]) (H' := []) ⟨Le.refl _, Le.refl _, Le.refl _, Le.refl _, True.intro⟩ True.intro rfl) ?_
        refine Ok.cond (d := 25) (b := ((x1.toNat : Int) != (x2.toNat : Int))) rfl hB1 (fun hb hB1 => ?_) fun hb hB1 => ?_
        · refine Ok.seq ?_
          refine Ok.region Try.tok ?_
          refine Ok.wk (Wk.tab (L := [(4, (vb false))]) (H' := []) ⟨Le.refl _, True.intro⟩ True.intro rfl) ?_
          refine Ok.ret ?_
          have hB1 := out_ret hB1 hy1
          cases hB1
          exact Fz.v
        · refine Ok.skip ?_
          refine Ok.region Try.tok ?_
          obtain ⟨hc1, hB1⟩ := chk_some hB1
          refine (Or.inl ⟨hc1, ?_⟩)
          exact ⟨_, (Option.some.inj hB1).symm, Wk.tab ⟨Le.refl _, Le.refl _, Le.refl _, True.intro⟩ True.intro rfl⟩
      · refine Ok.exit ?_
        have hB1 := out_ret hB1 hy1
        exact ⟨_, hB1, Wk.tab True.intro True.intro rfl⟩
    intro v1 h
    unfold ref02_Bytes_J1 at h
    refine Ok.seq ?_
    refine Ok.region Try.tok ?_
    refine Ok.wk (Wk.tab (L := [(4, (vb true))]) (H' := []) ⟨Le.refl _, True.intro⟩ True.intro rfl) ?_
    refine Ok.ret ?_
    cases h
    exact Fz.v

theorem w_ref25_Same {p_a : api_Copy} {p_b : api_Copy} {r : Bool} (h : ref25_Same p_a p_b = some r) : Pure Try.prog 19 [(.a [(vi p_a.Id), (vi p_a.Ver), (.s (List.map cU8 p_a.Data)), (.s (List.map Go.Cat.encI p_a.Sums))]), (.a [(vi p_b.Id), (vi p_b.Ver), (.s (List.map cU8 p_b.Data)), (.s (List.map Go.Cat.encI p_b.Sums))])] (vb r) := by
  refine pure_of_ok (n := 31) (c := (Try.f19.body.getD .skip)) Try.tok Try.func19 (by kernel_rfl) rfl rfl (Nat.le_of_ble_eq_true rfl) ?_
  unfold ref25_Same at h
  refine Ok.wk (Wk.tab (L := [(0, (.a [(vi p_a.Id), (vi p_a.Ver), (.s (List.map cU8 p_a.Data)), (.s (List.map Go.Cat.encI p_a.Sums))])), (1, (.a [(vi p_b.Id), (vi p_b.Ver), (.s (List.map cU8 p_b.Data)), (.s (List.map Go.Cat.encI p_b.Sums))]))]) (H' := []) ⟨Le.refl _, Le.refl _, True.intro⟩ True.intro rfl) ?_
  refine Ok.seq ?_
  refine Ok.region Try.tok ?_
  refine Ok.wk (Wk.tab (L := [(2, (.b 2 0)), (3, (.b 3 0))]) (H' := [(2, .box [(vi p_a.Id), (vi p_a.Ver), (.s (List.map cU8 p_a.Data)), (.s (List.map Go.Cat.encI p_a.Sums))]), (3, .box [(vi p_b.Id), (vi p_b.Ver), (.s (List.map cU8 p_b.Data)), (.s (List.map Go.Cat.encI p_b.Sums))])]) ⟨Le.refl _, Le.refl _, True.intro⟩ ⟨⟨_, rfl, .refl _⟩, ⟨_, rfl, .refl _⟩, True.intro⟩ rfl) ?_
  obtain ⟨v1, hv1, h⟩ := bindS h
  refine Ok.seqw ⟨Cat.tab [(4, (vb v1))], []⟩ ?_ ?_
  · refine Ok.region Try.tok ?_
    refine ⟨_, rfl, ⟨_, rfl, ?_⟩⟩
    obtain ⟨c1, hg1, hv1⟩ := bindS hv1
    refine Br.ite hg1 (fun hb hg1 => ?_) fun hb hg1 => ?_
    · refine ⟨_, rfl, ⟨_, rfl, ?_⟩⟩
      cases hg1
      obtain ⟨c2, hg2, hv1⟩ := bindS hv1
      refine Br.ite hg2 (fun hb hg2 => ?_) fun hb hg2 => ?_
      · obtain ⟨x1, hx1, hg2⟩ := bindS hg2
        refine ⟨_, rfl, ⟨_, rfl, ?_⟩⟩
        refine CallOk.call (w_ref02_Bytes hx1) (LeL.refl _) ?_
        cases hg2
        obtain ⟨c3, hg3, hv1⟩ := bindS hv1
        refine Br.ite hg3 (fun hb hg3 => ?_) fun hb hg3 => ?_
        · obtain ⟨x2, hx2, hg3⟩ := bindS hg3
          refine ⟨_, rfl, ⟨_, rfl, ?_⟩⟩
          refine CallOk.call (w_ref02_Ints hx2) (LeL.refl _) ?_
          cases hg3
          cases hv1
          exact Wk.tab ⟨Le.refl _, True.intro⟩ True.intro rfl
        · cases hg3
          cases hv1
          exact Wk.tab ⟨Le.refl _, True.intro⟩ True.intro rfl
      · cases hg2
        obtain ⟨c3, hg4, hv1⟩ := bindS hv1
        replace hg4 := iteF hg4
        cases hg4
        cases hv1
        exact Wk.tab ⟨Le.refl _, True.intro⟩ True.intro rfl
    · cases hg1
      obtain ⟨c2, hg5, hv1⟩ := bindS hv1
      replace hg5 := iteF hg5
      cases hg5
      obtain ⟨c3, hg6, hv1⟩ := bindS hv1
      replace hg6 := iteF hg6
      cases hg6
      cases hv1
      exact Wk.tab ⟨Le.refl _, True.intro⟩ True.intro rfl
  refine Ok.ret ?_
  cases h
  exact Fz.v

theorem w_law25_ChunkRots [Off] {p_d : api_Disk} {p_id : UInt8} {p_ver : Int} {p_data : List UInt8} {p_bit : Int} {r : Bool} (h : law25_ChunkRots p_d p_id p_ver p_data p_bit = some r) : Pure Try.prog 8 [(.a [(.s (List.map c_api_Page p_d.Synced)), (.s (List.map c_api_Page p_d.Loose)), (vb p_d.Down)]), (vu p_id), (.v (.int .u16 p_ver)), (.s (List.map cU8 p_data)), (.v (.int .u16 p_bit))] (vb r) := by
  refine pure_of_ok (n := 126) (c := (Try.f8.body.getD .skip)) Try.tok Try.func8 (by kernel_rfl) rfl rfl (Nat.le_of_ble_eq_true rfl) ?_
  unfold law25_ChunkRots at h
  refine Ok.wk (Wk.tab (L := [(0, (.a [(.s (List.map c_api_Page p_d.Synced)), (.s (List.map c_api_Page p_d.Loose)), (vb p_d.Down)])), (1, (vu p_id)), (2, (.v (.int .u16 p_ver))), (3, (.s (List.map cU8 p_data))), (4, (.v (.int .u16 p_bit)))]) (H' := []) ⟨Le.refl _, Le.refl _, Le.refl _, Le.refl _, Le.refl _, True.intro⟩ True.intro rfl) ?_
  refine Ok.seq ?_
  refine Ok.region Try.tok ?_
  refine Ok.wk (Wk.tab (L := [(1, (vu p_id)), (2, (.v (.int .u16 p_ver))), (3, (.s (List.map cU8 p_data))), (4, (.v (.int .u16 p_bit))), (5, (.b 5 0))]) (H' := [(5, .box [(.s (List.map c_api_Page p_d.Synced)), (.s (List.map c_api_Page p_d.Loose)), (vb p_d.Down)])]) ⟨Le.refl _, Le.refl _, Le.refl _, Le.refl _, Le.refl _, True.intro⟩ ⟨⟨_, rfl, .refl _⟩, True.intro⟩ rfl) ?_
  refine Ok.seq ?_
  refine Ok.region Try.tok ?_
  obtain ⟨x1, hx1, h⟩ := bindS h
  refine CallOk.call (w_law25_head hx1) (LeL.refl _) ?_
  refine Ok.wk (Wk.tab (L := [(1, (vu p_id)), (2, (.v (.int .u16 p_ver))), (3, (.s (List.map cU8 p_data))), (4, (.v (.int .u16 p_bit))), (5, (.b 5 0)), (11, (vb x1))]) (H' := [(5, .box [(.s (List.map c_api_Page p_d.Synced)), (.s (List.map c_api_Page p_d.Loose)), (vb p_d.Down)])]) ⟨Le.refl _, Le.refl _, Le.refl _, Le.refl _, Le.refl _, Le.refl _, True.intro⟩ ⟨⟨_, rfl, .refl _⟩, True.intro⟩ rfl) ?_
  refine Ok.seq ?_
  obtain ⟨v1, hv1, h⟩ := bindS h
  refine Ok.seqw ⟨Cat.tab [(1, (vu p_id)), (2, (.v (.int .u16 p_ver))), (3, (.s (List.map cU8 p_data))), (4, (.v (.int .u16 p_bit))), (5, (.b 5 0)), (11, (vb x1)), (32, (vb v1))], [(5, .box [(.s (List.map c_api_Page p_d.Synced)), (.s (List.map c_api_Page p_d.Loose)), (vb p_d.Down)])]⟩ ?_ ?_
  · refine Ok.region Try.tok ?_
    obtain ⟨x2, hx2, hv1⟩ := bindS hv1
    refine ⟨_, rfl, ?_⟩
    refine CallOk.call (w_law25_Great hx2) (LeL.refl _) ?_
    obtain ⟨c1, hg1, hv1⟩ := bindS hv1
    refine Br.itf hg1 (fun hb hg1 => ?_) fun hb hg1 => ?_
    · cases hg1
      cases hv1
      exact Wk.tab ⟨Le.refl _, Le.refl _, Le.refl _, Le.refl _, Le.refl _, Le.refl _, Le.refl _, True.intro⟩ ⟨⟨_, rfl, .refl _⟩, True.intro⟩ rfl
    · refine ⟨_, rfl, ?_⟩
      cases hg1
      cases hv1
      exact Wk.tab ⟨Le.refl _, Le.refl _, Le.refl _, Le.refl _, Le.refl _, Le.refl _, Le.refl _, True.intro⟩ ⟨⟨_, rfl, .refl _⟩, True.intro⟩ rfl
  refine Ok.cond (d := 32) (b := v1) rfl h (fun hb h => ?_) fun hb h => ?_
  · refine Ok.seq ?_
    refine Ok.region Try.tok ?_
    refine Ok.wk (Wk.tab (L := [(10, (vb x1))]) (H' := []) ⟨Le.refl _, True.intro⟩ True.intro rfl) ?_
    refine Ok.ret ?_
    cases h
    exact Fz.v
  · refine Ok.skip ?_
    refine Ok.seq ?_
    refine Ok.region Try.tok ?_
    obtain ⟨x3, hx3, h⟩ := bindS h
    refine CallOk.call (w_law25_may hx3) (LeL.refl _) ?_
    refine ⟨_, rfl, ?_⟩
    refine Ok.wk (Wk.tab (L := [(4, (.v (.int .u16 p_bit))), (5, (.b 5 0)), (11, (vb x1)), (12, (.b 12 0))]) (H' := [(5, .box [(.s (List.map c_api_Page p_d.Synced)), (.s (List.map c_api_Page p_d.Loose)), (vb p_d.Down)]), (12, .box [(vi x3.Id), (vi x3.Ver), (.s (List.map cU8 x3.Data)), (.s (List.map Go.Cat.encI x3.Sums))])]) ⟨Le.refl _, Le.refl _, Le.refl _, Le.refl _, True.intro⟩ ⟨⟨_, rfl, .refl _⟩, ⟨_, rfl, .refl _⟩, True.intro⟩ rfl) ?_
    refine Ok.seq ?_
    refine Ok.region Try.tok ?_
    obtain ⟨x4, hx4, h⟩ := bindS h
    refine ⟨_, rfl, ⟨_, rfl, ?_⟩⟩
    refine CallOk.call (w_chunk_Put hx4) (LeL.refl _) ?_
    refine ⟨_, rfl, ?_⟩
    refine Ok.wk (Wk.tab (L := [(4, (.v (.int .u16 p_bit))), (11, (vb x1)), (12, (.b 12 0)), (13, (.b 13 0)), (14, (vi x4.2))]) (H' := [(12, .box [(vi x3.Id), (vi x3.Ver), (.s (List.map cU8 x3.Data)), (.s (List.map Go.Cat.encI x3.Sums))]), (13, .box [(.s (List.map c_api_Page x4.1.Synced)), (.s (List.map c_api_Page x4.1.Loose)), (vb x4.1.Down)])]) ⟨Le.refl _, Le.refl _, Le.refl _, Le.refl _, Le.refl _, True.intro⟩ ⟨⟨_, rfl, .refl _⟩, ⟨_, rfl, .refl _⟩, True.intro⟩ rfl) ?_
    refine Ok.seq ?_
    refine Ok.region Try.tok ?_
    obtain ⟨x5, hx5, h⟩ := bindS h
    refine ⟨_, rfl, ?_⟩
    refine CallOk.call (w_disk_Sync hx5) (LeL.refl _) ?_
    refine ⟨_, rfl, ?_⟩
    refine Ok.wk (Wk.tab (L := [(4, (.v (.int .u16 p_bit))), (11, (vb x1)), (12, (.b 12 0)), (14, (vi x4.2)), (15, (.b 15 0)), (16, (vi x5.2))]) (H' := [(12, .box [(vi x3.Id), (vi x3.Ver), (.s (List.map cU8 x3.Data)), (.s (List.map Go.Cat.encI x3.Sums))]), (15, .box [(.s (List.map c_api_Page x5.1.Synced)), (.s (List.map c_api_Page x5.1.Loose)), (vb x5.1.Down)])]) ⟨Le.refl _, Le.refl _, Le.refl _, Le.refl _, Le.refl _, Le.refl _, True.intro⟩ ⟨⟨_, rfl, .refl _⟩, ⟨_, rfl, .refl _⟩, True.intro⟩ rfl) ?_
    refine Ok.seq ?_
    refine Ok.region Try.tok ?_
    obtain ⟨x6, hx6, h⟩ := bindS h
    refine ⟨_, rfl, ⟨_, rfl, ?_⟩⟩
    refine CallOk.call (w_disk_Read hx6) (LeL.refl _) ?_
    refine Ok.wk (Wk.tab (L := [(4, (.v (.int .u16 p_bit))), (11, (vb x1)), (12, (.b 12 0)), (14, (vi x4.2)), (15, (.b 15 0)), (16, (vi x5.2)), (17, (.s (List.map cU8 x6.1))), (18, (vi x6.2))]) (H' := [(12, .box [(vi x3.Id), (vi x3.Ver), (.s (List.map cU8 x3.Data)), (.s (List.map Go.Cat.encI x3.Sums))]), (15, .box [(.s (List.map c_api_Page x5.1.Synced)), (.s (List.map c_api_Page x5.1.Loose)), (vb x5.1.Down)])]) ⟨Le.refl _, Le.refl _, Le.refl _, Le.refl _, Le.refl _, Le.refl _, Le.refl _, Le.refl _, True.intro⟩ ⟨⟨_, rfl, .refl _⟩, ⟨_, rfl, .refl _⟩, True.intro⟩ rfl) ?_
    refine Ok.seq ?_
    obtain ⟨v2, hv2, h⟩ := bindS h
    refine Ok.seqw ⟨Cat.tab [(4, (.v (.int .u16 p_bit))), (11, (vb x1)), (12, (.b 12 0)), (15, (.b 15 0)), (17, (.s (List.map cU8 x6.1))), (70, (vb v2))], [(12, .box [(vi x3.Id), (vi x3.Ver), (.s (List.map cU8 x3.Data)), (.s (List.map Go.Cat.encI x3.Sums))]), (15, .box [(.s (List.map c_api_Page x5.1.Synced)), (.s (List.map c_api_Page x5.1.Loose)), (vb x5.1.Down)])]⟩ ?_ ?_
    · refine Ok.region Try.tok ?_
      obtain ⟨c2, hg2, hv2⟩ := bindS hv2
      refine Br.itf hg2 (fun hb hg2 => ?_) fun hb hg2 => ?_
      · cases hg2
        obtain ⟨c3, hg3, hv2⟩ := bindS hv2
        replace hg3 := iteT hg3
        cases hg3
        obtain ⟨c4, hg4, hv2⟩ := bindS hv2
        replace hg4 := iteT hg4
        cases hg4
        cases hv2
        exact Wk.tab ⟨Le.refl _, Le.refl _, Le.refl _, Le.refl _, Le.refl _, Le.refl _, True.intro⟩ ⟨⟨_, rfl, .refl _⟩, ⟨_, rfl, .refl _⟩, True.intro⟩ rfl
      · cases hg2
        obtain ⟨c3, hg5, hv2⟩ := bindS hv2
        refine Br.itf hg5 (fun hb hg5 => ?_) fun hb hg5 => ?_
        · cases hg5
          obtain ⟨c4, hg6, hv2⟩ := bindS hv2
          replace hg6 := iteT hg6
          cases hg6
          cases hv2
          exact Wk.tab ⟨Le.refl _, Le.refl _, Le.refl _, Le.refl _, Le.refl _, Le.refl _, True.intro⟩ ⟨⟨_, rfl, .refl _⟩, ⟨_, rfl, .refl _⟩, True.intro⟩ rfl
        · cases hg5
          obtain ⟨c4, hg7, hv2⟩ := bindS hv2
          refine Br.itf hg7 (fun hb hg7 => ?_) fun hb hg7 => ?_
          · cases hg7
            cases hv2
            exact Wk.tab ⟨Le.refl _, Le.refl _, Le.refl _, Le.refl _, Le.refl _, Le.refl _, True.intro⟩ ⟨⟨_, rfl, .refl _⟩, ⟨_, rfl, .refl _⟩, True.intro⟩ rfl
          · refine ⟨_, List.length_map _, fun _ => ?_⟩
            cases hg7
            cases hv2
            exact Wk.tab ⟨Le.refl _, Le.refl _, Le.refl _, Le.refl _, Le.refl _, Le.refl _, True.intro⟩ ⟨⟨_, rfl, .refl _⟩, ⟨_, rfl, .refl _⟩, True.intro⟩ rfl
    refine Ok.cond (d := 70) (b := v2) rfl h (fun hb h => ?_) fun hb h => ?_
    · refine Ok.seq ?_
      refine Ok.region Try.tok ?_
      refine Ok.wk (Wk.tab (L := [(10, (vb false))]) (H' := []) ⟨Le.refl _, True.intro⟩ True.intro rfl) ?_
      refine Ok.ret ?_
      cases h
      exact Fz.v
    · refine Ok.skip ?_
      refine Ok.seq ?_
      refine Ok.draw (m := 11) Try.tok Try.mixed (by kernel_rfl) ?_
      obtain ⟨hc1, h⟩ := chk_some h
      obtain ⟨hc2, h⟩ := chk_some h
      obtain ⟨x7, hx7, h⟩ := bindS h
      refine ⟨_, ⟨_, rfl, rfl⟩, ⟨_, rfl, ⟨_, ⟨_, rfl, rfl⟩, ⟨_, rfl, ⟨_, ⟨_, rfl, rfl⟩, ⟨_, rfl, ⟨_, ⟨_, List.length_map _, fun _ => rfl⟩, ⟨_, (Or.inl ⟨hc1, rfl⟩), ⟨_, ⟨hc2, _, rfl, rfl⟩, ⟨_, ⟨_, .of_pure (w_disk_Rot hx7) (LeL.refl _), rfl⟩, ⟨_, rfl, ?_⟩⟩⟩⟩⟩⟩⟩⟩⟩⟩⟩
      refine Ok.wk (Wk.tab (L := [(11, (vb x1)), (12, (.b 12 0)), (19, (.b 19 0))]) (H' := [(12, .box [(vi x3.Id), (vi x3.Ver), (.s (List.map cU8 x3.Data)), (.s (List.map Go.Cat.encI x3.Sums))]), (19, .box [(.s (List.map c_api_Page x7.Synced)), (.s (List.map c_api_Page x7.Loose)), (vb x7.Down)])]) ⟨Le.refl _, Le.refl _, Le.refl _, True.intro⟩ ⟨⟨_, rfl, .refl _⟩, ⟨_, rfl, .refl _⟩, True.intro⟩ rfl) ?_
      refine Ok.seq ?_
      refine Ok.region Try.tok ?_
      obtain ⟨x8, hx8, h⟩ := bindS h
      refine ⟨_, rfl, ⟨_, rfl, ?_⟩⟩
      refine CallOk.call (w_chunk_Get hx8) (LeL.refl _) ?_
      refine ⟨_, rfl, ?_⟩
      refine Ok.wk (Wk.tab (L := [(11, (vb x1)), (12, (.b 12 0)), (19, (.b 19 0)), (21, (vi x8.2))]) (H' := [(12, .box [(vi x3.Id), (vi x3.Ver), (.s (List.map cU8 x3.Data)), (.s (List.map Go.Cat.encI x3.Sums))]), (19, .box [(.s (List.map c_api_Page x7.Synced)), (.s (List.map c_api_Page x7.Loose)), (vb x7.Down)])]) ⟨Le.refl _, Le.refl _, Le.refl _, Le.refl _, True.intro⟩ ⟨⟨_, rfl, .refl _⟩, ⟨_, rfl, .refl _⟩, True.intro⟩ rfl) ?_
      refine Ok.seq ?_
      refine Ok.region Try.tok ?_
      obtain ⟨x9, hx9, h⟩ := bindS h
      refine ⟨_, rfl, ⟨_, rfl, ?_⟩⟩
      refine CallOk.call (w_chunk_Put hx9) (LeL.refl _) ?_
      refine ⟨_, rfl, ?_⟩
      refine Ok.wk (Wk.tab (L := [(11, (vb x1)), (12, (.b 12 0)), (19, (.b 19 0)), (21, (vi x8.2)), (22, (.b 22 0)), (23, (vi x9.2))]) (H' := [(12, .box [(vi x3.Id), (vi x3.Ver), (.s (List.map cU8 x3.Data)), (.s (List.map Go.Cat.encI x3.Sums))]), (19, .box [(.s (List.map c_api_Page x7.Synced)), (.s (List.map c_api_Page x7.Loose)), (vb x7.Down)]), (22, .box [(.s (List.map c_api_Page x9.1.Synced)), (.s (List.map c_api_Page x9.1.Loose)), (vb x9.1.Down)])]) ⟨Le.refl _, Le.refl _, Le.refl _, Le.refl _, Le.refl _, Le.refl _, True.intro⟩ ⟨⟨_, rfl, .refl _⟩, ⟨_, rfl, .refl _⟩, ⟨_, rfl, .refl _⟩, True.intro⟩ rfl) ?_
      refine Ok.seq ?_
      refine Ok.region Try.tok ?_
      obtain ⟨x10, hx10, h⟩ := bindS h
      refine ⟨_, rfl, ⟨_, rfl, ?_⟩⟩
      refine CallOk.call (w_chunk_Get hx10) (LeL.refl _) ?_
      refine ⟨_, rfl, ?_⟩
      refine Ok.wk (Wk.tab (L := [(11, (vb x1)), (12, (.b 12 0)), (19, (.b 19 0)), (21, (vi x8.2)), (23, (vi x9.2)), (24, (.b 24 0)), (25, (vi x10.2))]) (H' := [(12, .box [(vi x3.Id), (vi x3.Ver), (.s (List.map cU8 x3.Data)), (.s (List.map Go.Cat.encI x3.Sums))]), (19, .box [(.s (List.map c_api_Page x7.Synced)), (.s (List.map c_api_Page x7.Loose)), (vb x7.Down)]), (24, .box [(vi x10.1.Id), (vi x10.1.Ver), (.s (List.map cU8 x10.1.Data)), (.s (List.map Go.Cat.encI x10.1.Sums))])]) ⟨Le.refl _, Le.refl _, Le.refl _, Le.refl _, Le.refl _, Le.refl _, Le.refl _, True.intro⟩ ⟨⟨_, rfl, .refl _⟩, ⟨_, rfl, .refl _⟩, ⟨_, rfl, .refl _⟩, True.intro⟩ rfl) ?_
      obtain ⟨v3, hv3, h⟩ := bindS h
      refine Ok.seqw ⟨Cat.tab [(10, (vb v3))], []⟩ ?_ ?_
      · refine Ok.draw (m := 26) Try.tok Try.mixed (by kernel_rfl) ?_
        refine ⟨_, rfl, ⟨_, rfl, ?_⟩⟩
        obtain ⟨c5, hg8, hv3⟩ := bindS hv3
        refine Br.ite hg8 (fun hb hg8 => ?_) fun hb hg8 => ?_
        · refine ⟨_, rfl, ⟨_, rfl, ?_⟩⟩
          cases hg8
          refine ⟨_, rfl, ?_⟩
          refine ⟨_, rfl, ?_⟩
          obtain ⟨c6, hg9, hv3⟩ := bindS hv3
          refine Br.ite hg9 (fun hb hg9 => ?_) fun hb hg9 => ?_
          · obtain ⟨x11, hx11, hg9⟩ := bindS hg9
            obtain ⟨x12, hx12, hg9⟩ := bindS hg9
            refine ⟨_, ⟨_, rfl, rfl⟩, ⟨_, ⟨_, .of_pure (w_chunk_Has hx11) (LeL.refl _), rfl⟩, ⟨_, rfl, ⟨_, ⟨_, rfl, rfl⟩, ⟨_, ⟨_, .of_pure (w_law25_has hx12) (LeL.refl _), rfl⟩, ?_⟩⟩⟩⟩⟩
            cases hg9
            refine ⟨_, rfl, ?_⟩
            refine ⟨_, rfl, ?_⟩
            obtain ⟨c7, hg10, hv3⟩ := bindS hv3
            refine Br.ite hg10 (fun hb hg10 => ?_) fun hb hg10 => ?_
            · refine ⟨_, rfl, ⟨_, rfl, ?_⟩⟩
              cases hg10
              refine ⟨_, rfl, ?_⟩
              refine ⟨_, rfl, ?_⟩
              obtain ⟨c8, hg11, hv3⟩ := bindS hv3
              refine Br.ite hg11 (fun hb hg11 => ?_) fun hb hg11 => ?_
              · refine ⟨_, rfl, ⟨_, rfl, ?_⟩⟩
                cases hg11
                refine ⟨_, rfl, ?_⟩
                refine ⟨_, rfl, ?_⟩
                obtain ⟨c9, hg12, hv3⟩ := bindS hv3
                refine Br.ite hg12 (fun hb hg12 => ?_) fun hb hg12 => ?_
                · obtain ⟨x13, hx13, hg12⟩ := bindS hg12
                  refine ⟨_, ⟨_, rfl, rfl⟩, ⟨_, ⟨_, rfl, rfl⟩, ⟨_, ⟨_, .of_pure (w_ref25_Same hx13) (LeL.refl _), rfl⟩, ?_⟩⟩⟩
                  cases hg12
                  refine ⟨_, rfl, ?_⟩
                  refine ⟨_, rfl, ?_⟩
                  cases hv3
                  exact Wk.tab ⟨Le.refl _, True.intro⟩ True.intro rfl
                · cases hg12
                  refine ⟨_, rfl, ?_⟩
                  refine ⟨_, rfl, ?_⟩
                  cases hv3
                  exact Wk.tab ⟨Le.refl _, True.intro⟩ True.intro rfl
              · cases hg11
                refine ⟨_, rfl, ?_⟩
                refine ⟨_, rfl, ?_⟩
                obtain ⟨c9, hg13, hv3⟩ := bindS hv3
                replace hg13 := iteF hg13
                cases hg13
                refine ⟨_, rfl, ?_⟩
                refine ⟨_, rfl, ?_⟩
                cases hv3
                exact Wk.tab ⟨Le.refl _, True.intro⟩ True.intro rfl
            · cases hg10
              refine ⟨_, rfl, ?_⟩
              refine ⟨_, rfl, ?_⟩
              obtain ⟨c8, hg14, hv3⟩ := bindS hv3
              replace hg14 := iteF hg14
              cases hg14
              refine ⟨_, rfl, ?_⟩
              refine ⟨_, rfl, ?_⟩
              obtain ⟨c9, hg15, hv3⟩ := bindS hv3
              replace hg15 := iteF hg15
              cases hg15
              refine ⟨_, rfl, ?_⟩
              refine ⟨_, rfl, ?_⟩
              cases hv3
              exact Wk.tab ⟨Le.refl _, True.intro⟩ True.intro rfl
          · cases hg9
            refine ⟨_, rfl, ?_⟩
            refine ⟨_, rfl, ?_⟩
            obtain ⟨c7, hg16, hv3⟩ := bindS hv3
            replace hg16 := iteF hg16
            cases hg16
            refine ⟨_, rfl, ?_⟩
            refine ⟨_, rfl, ?_⟩
            obtain ⟨c8, hg17, hv3⟩ := bindS hv3
            replace hg17 := iteF hg17
            cases hg17
            refine ⟨_, rfl, ?_⟩
            refine ⟨_, rfl, ?_⟩
            obtain ⟨c9, hg18, hv3⟩ := bindS hv3
            replace hg18 := iteF hg18
            cases hg18
            refine ⟨_, rfl, ?_⟩
            refine ⟨_, rfl, ?_⟩
            cases hv3
            exact Wk.tab ⟨Le.refl _, True.intro⟩ True.intro rfl
        · cases hg8
          refine ⟨_, rfl, ?_⟩
          refine ⟨_, rfl, ?_⟩
          obtain ⟨c6, hg19, hv3⟩ := bindS hv3
          replace hg19 := iteF hg19
          cases hg19
          refine ⟨_, rfl, ?_⟩
          refine ⟨_, rfl, ?_⟩
          obtain ⟨c7, hg20, hv3⟩ := bindS hv3
          replace hg20 := iteF hg20
          cases hg20
          refine ⟨_, rfl, ?_⟩
          refine ⟨_, rfl, ?_⟩
          obtain ⟨c8, hg21, hv3⟩ := bindS hv3
          replace hg21 := iteF hg21
          cases hg21
          refine ⟨_, rfl, ?_⟩
          refine ⟨_, rfl, ?_⟩
          obtain ⟨c9, hg22, hv3⟩ := bindS hv3
          replace hg22 := iteF hg22
          cases hg22
          refine ⟨_, rfl, ?_⟩
          refine ⟨_, rfl, ?_⟩
          cases hv3
          exact Wk.tab ⟨Le.refl _, True.intro⟩ True.intro rfl
      refine Ok.ret ?_
      cases h
      exact Fz.v

end Go.Proofs
