/- The walks of this seat beside the plain programs, part 2. No condition. -/
import Derived.Test.YtcbpphgndncebabGreatXMendWholeEn
import Derived.Test.YtcbpphgndncebabGreatXMendWholeWk0
import Derived.Test.YtcbpphgndncebabGreatXMendWholeWk1
namespace Go.Proofs
set_option linter.all false
open Go Go.Cat
variable [M : Mono]
set_option maxRecDepth 100000
theorem w_scrub_stands {p_disks} {p_c} {p_s} {r} (h : scrub_stands p_disks p_c p_s = some r) : Pure Tryz.prog 91 [(.s (mC p_disks)), (.a [(vi p_c.Id), (vi p_c.Ver), (.s (mU p_c.Servers))]), (vi p_s)] (vi r) := by
 refine po Tryz.tok 48 Tryz.func91 (by kernel_rfl) rfl rfl rfl ?_
 unfold scrub_stands at h
 refine wE [(0, .s (mC p_disks)), (1, .a [vi p_c.Id, vi p_c.Ver, .s (mU p_c.Servers)]), (2, vi p_s)] Q3 ?_
 refine sg ?_
 refine wT [(0, .s (mC p_disks)), (2, vi p_s), (4, .b 4 0)] [(4, .box [vi p_c.Id, vi p_c.Ver, .s (mU p_c.Servers)])] Q3 J1 rfl ?_
 refine sq ?_
 obtain ⟨v1, hv1, h⟩ := bindS h
 refine Ok.seqw ⟨Cat.tab [(0, .s (mC p_disks)), (2, vi p_s), (4, .b 4 0), (19, vb v1)], [(4, .box [vi p_c.Id, vi p_c.Ver, .s (mU p_c.Servers)])]⟩ ?_ ?_
 ·refine rg ?_
  refine ⟨_, List.length_map _, fun _ => ?_⟩
  obtain ⟨c1, hg1, hv1⟩ := bindS hv1
  refine Br.itf hg1 (fun hb hg1 => ?_) fun hb hg1 => ?_
  ·cases hg1
   cases hv1
   exact wt Q4 J1 rfl
  obtain ⟨x1, hx1, hg1⟩ := bindS hg1
  refine ⟨_, idx_nat hx1, _, idx_row hx1, _, rfl, ?_⟩
  cases hg1
  cases hv1
  exact wt Q4 J1 rfl
 refine cn 19 (v1) rfl h (fun hb h => ?_) fun hb h => ?_
 ·refine sg ?_
  refine wE [(6, vi (1))] Q1 ?_
  refine rt ?_
  cases h
  exact Fz.v
 refine sk ?_
 refine sq ?_
 refine Ok.draw2 (m := 11) (late := [9]) (MD := ⟨[]⟩) (CH := ⟨[]⟩) Tryz.tok Tryz.mixed (by kernel_rfl) ?_
 obtain ⟨x2, hx2, h⟩ := bindS h
 obtain ⟨x3, hx3, h⟩ := bindS h
 refine ⟨_, rfl, _, rfl, _, ⟨_, idx_nat hx2, _, idx_row hx2, rfl⟩, _, ⟨_, rfl, rfl⟩, _, rfl, _, ⟨_, rfl, rfl⟩, _, ⟨_, .of_pure (w_chunk_Get hx3) (LeL.refl _), rfl⟩, _, rfl, _, rfl, _, rfl, Q0, ?_⟩
 refine ⟨_, rfl, ⟨⟨_, rfl, rfl⟩, Q0⟩, ?_⟩
 refine wT [(4, .b 4 0), (7, .b 7 0), (8, vi x3.2)] [(4, .box [vi p_c.Id, vi p_c.Ver, .s (mU p_c.Servers)]), (7, .box [vi x3.1.Id, vi x3.1.Ver, .s (mI x3.1.Data), .s (mU x3.1.Sums)])] Q3 J2 rfl ?_
 refine sq ?_
 refine bl ?_
 refine sg ?_
 refine wT [(4, .b 4 0), (7, .b 7 0), (8, vi x3.2), (30, vb (x3.2 == 41))] [(4, .box [vi p_c.Id, vi p_c.Ver, .s (mU p_c.Servers)]), (7, .box [vi x3.1.Id, vi x3.1.Ver, .s (mI x3.1.Data), .s (mU x3.1.Sums)])] Q4 J2 rfl ?_
 refine cn 30 (x3.2 == 41) rfl h (fun hb h => ?_) fun hb h => ?_
 ·refine sg ?_
  refine wE [(6, vi (2))] Q1 ?_
  refine rt ?_
  cases h
  exact Fz.v
 refine sg ?_
 refine wT [(4, .b 4 0), (7, .b 7 0), (33, vb (x3.2 != 0))] [(4, .box [vi p_c.Id, vi p_c.Ver, .s (mU p_c.Servers)]), (7, .box [vi x3.1.Id, vi x3.1.Ver, .s (mI x3.1.Data), .s (mU x3.1.Sums)])] Q3 J2 rfl ?_
 refine cn 33 (x3.2 != 0) rfl h (fun hb h => ?_) fun hb h => ?_
 ·refine sg ?_
  refine wE [(6, vi (3))] Q1 ?_
  refine rt ?_
  cases h
  exact Fz.v
 refine sg ?_
 refine ⟨_, rfl, _, rfl, ?_⟩
 refine wT [(4, .b 4 0), (7, .b 7 0), (36, vb (decide (x3.1.Ver < p_c.Ver)))] [(4, .box [vi p_c.Id, vi p_c.Ver, .s (mU p_c.Servers)]), (7, .box [vi x3.1.Id, vi x3.1.Ver, .s (mI x3.1.Data), .s (mU x3.1.Sums)])] Q3 J2 rfl ?_
 refine cn 36 (decide (x3.1.Ver < p_c.Ver)) rfl h (fun hb h => ?_) fun hb h => ?_
 ·refine sg ?_
  refine wE [(6, vi (4))] Q1 ?_
  refine rt ?_
  cases h
  exact Fz.v
 refine sg ?_
 refine ⟨_, rfl, _, rfl, ?_⟩
 refine wE [(42, vb (decide (x3.1.Ver > p_c.Ver)))] Q1 ?_
 refine cn 42 (decide (x3.1.Ver > p_c.Ver)) rfl h (fun hb h => ?_) fun hb h => ?_
 ·refine sg ?_
  refine wE [(6, vi (5))] Q1 ?_
  refine rt ?_
  cases h
  exact Fz.v
 refine sk ?_
 refine sg ?_
 refine wE [(6, vi (0))] Q1 ?_
 refine rt ?_
 cases h
 exact Fz.v
theorem wg_scrub_Intact_R0_2 {l : Nat} {p_a1 : Int} {p_a2 : Int} {p_h2 : List Int} {r : (List Int)} (h : scrub_Intact_R0_2 p_a1 p_a2 p_h2 = some r) : CallOk Tryz.prog (.y l) [(vi p_a1), (vi p_a2)] ⟨noSlots, (1000, .lp l .rdy Tryz.rf36_0 [(5, (.b 1001 0))]) :: [(1001, .box [(.o 1002)]), (1002, .own 3 1 (mU p_h2))]⟩ fun x s => x = .v (.bool (LS.isR .rdy)) ∧ s.H = (1000, .lp l .rdy Tryz.rf36_0 [(5, (.b 1001 0))]) :: [(1001, .box [(.o 999)]), (999, .own 3 1 (mU r))] := by
 letI : Rnds := Rnds.yes
 refine yield_of_ok (e0 := .rdy) (H1 := [(1001, .box [.o 999]), (999, .own 3 1 (mU r))]) (by kernel_rfl) (by kernel_rfl) rfl rfl rfl ?_
 unfold scrub_Intact_R0_2 at h
 refine wT [(5, .b 1001 0), (11, vi p_a1), (12, vi p_a2)] [(1001, .box [.o 1002]), (1002, .own 3 1 (mU p_h2))] Q3 J2 rfl ?_
 refine sg ?_
 refine wT [(5, .b 1001 0), (6, vi p_a1), (12, vi p_a2)] [(1001, .box [.o 1002]), (1002, .own 3 1 (mU p_h2))] Q3 J2 rfl ?_
 refine rg ?_
 refine wT [(5, .b 1001 0), (6, vi p_a1), (7, vi p_a2)] [(1001, .box [.o 1002]), (1002, .own 3 1 (mU p_h2))] Q3 J2 rfl ?_
 refine bl ?_
 refine sg ?_
 refine wT [(5, .b 1001 0), (6, vi p_a1), (14, vb (p_a2 == 0))] [(1001, .box [.o 1002]), (1002, .own 3 1 (mU p_h2))] Q3 J2 rfl ?_
 refine cn 14 (p_a2 == 0) rfl h (fun hb h => ?_) fun hb h => ?_
 ·refine Ok.wk (Wk.mv (i := 1002) (d := 999) rfl rfl rfl) ?_
  refine rg ?_
  obtain ⟨hc1, h⟩ := chk_some h
  refine ⟨_, rfl, Or.inl ⟨rowsLen_map (f := Go.Cat.encI) (n := 1) (fun _ => rfl) ([p_a1]), app_b2 (f := Go.Cat.encI) (l := p_h2) (l' := [p_a1]) hc1, _, (List.map_append (f := Go.Cat.encI) (l₁ := p_h2) (l₂ := [p_a1])).symm, _, rfl, ?_⟩⟩
  cases h
  exact ⟨rfl, wt Q0 ⟨⟨_, rfl, .refl _⟩, ⟨_, rfl, .refl _⟩, Q0⟩ rfl⟩
 refine sk ?_
 cases h
 exact ⟨rfl, (Wk.mv (i := 1002) (d := 999) rfl rfl rfl).trans (wt Q0 ⟨⟨_, rfl, .refl _⟩, ⟨_, rfl, .refl _⟩, Q0⟩ rfl)⟩
theorem wg_scrub_all_1 {l : Nat} {p_b2 : api_Chain} {p_b3 : List api_Disk} {r : (List Int)} (h : scrub_all_1 p_b2 p_b3 = some r) : CallOk Tryz.prog 90 [(.c (.yield l) [] []), (.b 1002 0), (.b 1003 0)] ⟨noSlots, [(1000, .lp l .rdy Tryz.rf36_0 [(5, (.b 1001 0))]), (1001, .box [(.v (.slice none 0 0))]), (1002, .box [(vi p_b2.Id), (vi p_b2.Ver), (.s (mU p_b2.Servers))]), (1003, .box [(.s (mC p_b3))])]⟩ fun x s => x = (.t []) ∧ s.H = [(1000, .lp l .rdy Tryz.rf36_0 [(5, (.b 1001 0))]), (1001, .box [(.o 999)]), (1002, .box [(vi p_b2.Id), (vi p_b2.Ver), (.s (mU p_b2.Servers))]), (1003, .box [(.s (mC p_b3))]), (999, .own 3 1 (mU r))] := by
 refine pgen_of_ok (n := 22) (c := Tryz.f90.body.getD .skip) Tryz.tok Tryz.func90 (by kernel_rfl) rfl rfl (Nat.le_of_ble_eq_true rfl) ?_
 unfold scrub_all_1 at h
 refine wT [(0, .c (.yield l) [] []), (1, .b 1002 0), (2, .b 1003 0)] [(1000, .lp l .rdy Tryz.rf36_0 [(5, .b 1001 0)]), (1001, .box [.v (.slice none 0 0)]), (1002, .box [vi p_b2.Id, vi p_b2.Ver, .s (mU p_b2.Servers)]), (1003, .box [.s (mC p_b3)])] Q3 J4 rfl ?_
 refine sg ?_
 refine ⟨_, rfl, _, List.length_map _, fun _ => ?_⟩
 refine wT [(0, .c (.yield l) [] []), (1, .b 1002 0), (2, .b 1003 0), (7, .s (mU p_b2.Servers)), (8, vi (p_b2.Servers.length : Int)), (9, vi (0))] [(1000, .lp l .rdy Tryz.rf36_0 [(5, .b 1001 0)]), (1001, .box [.v (.slice none 0 0)]), (1002, .box [vi p_b2.Id, vi p_b2.Ver, .s (mU p_b2.Servers)]), (1003, .box [.s (mC p_b3)])] Q6 J4 rfl ?_
 refine bl ?_
 refine Ok.loop (fun (s1 : Int × (List Int)) => ⟨Cat.tab [(0, .c (.yield l) [] []), (1, .b 1002 0), (2, .b 1003 0), (7, .s (mU p_b2.Servers)), (8, vi (p_b2.Servers.length : Int)), (9, vi s1.1)], [(1000, .lp l .rdy Tryz.rf36_0 [(5, .b 1001 0)]), (1001, .box [.o 999]), (999, .own 3 1 (mU s1.2)), (1002, .box [vi p_b2.Id, vi p_b2.Ver, .s (mU p_b2.Servers)]), (1003, .box [.s (mC p_b3)])]⟩) (scrub_all_1_B1 p_b2 p_b3) (s0 := (0, [])) h ((Wk.ownb (b := 1001) (q := 0) (id := 999) (E := 3) (K := 1) rfl rfl rfl).trans (wt Q6 ⟨⟨_, rfl, .refl _⟩, ⟨_, rfl, .refl _⟩, ⟨_, rfl, .refl _⟩, ⟨_, rfl, .refl _⟩, ⟨_, rfl, .refl _⟩, Q0⟩ rfl)) ?_
 intro s1 y1 hB1 hy1
 unfold scrub_all_1_B1 at hB1
 refine sg ?_
 refine wT [(0, .c (.yield l) [] []), (1, .b 1002 0), (2, .b 1003 0), (7, .s (mU p_b2.Servers)), (8, vi (p_b2.Servers.length : Int)), (9, vi s1.1), (10, vb (decide (s1.1 < (p_b2.Servers.length : Int))))] [(1000, .lp l .rdy Tryz.rf36_0 [(5, .b 1001 0)]), (1001, .box [.o 999]), (999, .own 3 1 (mU s1.2)), (1002, .box [vi p_b2.Id, vi p_b2.Ver, .s (mU p_b2.Servers)]), (1003, .box [.s (mC p_b3)])] Q7 ⟨hr, J4⟩ rfl ?_
 refine sq ?_
 refine cn 10 (decide (s1.1 < (p_b2.Servers.length : Int))) rfl hB1 (fun hb hB1 => ?_) fun hb hB1 => ?_
 ·refine sk ?_
  refine sq ?_
  refine bl ?_
  refine sg ?_
  obtain ⟨x1, hx1, hB1⟩ := bindS hB1
  refine ⟨_, idx_nat hx1, _, idx_row hx1, _, rfl, ?_⟩
  refine wT [(0, .c (.yield l) [] []), (1, .b 1002 0), (2, .b 1003 0), (5, vi x1), (7, .s (mU p_b2.Servers)), (8, vi (p_b2.Servers.length : Int)), (9, vi s1.1)] [(1000, .lp l .rdy Tryz.rf36_0 [(5, .b 1001 0)]), (1001, .box [.o 999]), (999, .own 3 1 (mU s1.2)), (1002, .box [vi p_b2.Id, vi p_b2.Ver, .s (mU p_b2.Servers)]), (1003, .box [.s (mC p_b3)])] Q7 ⟨hr, J4⟩ rfl ?_
  refine sg ?_
  obtain ⟨x2, hx2, hB1⟩ := bindS hB1
  refine ⟨_, rfl, _, rfl, ?_⟩
  refine CallOk.call (w_scrub_stands hx2) (LeL.refl _) ?_
  obtain ⟨x3, hx3, hB1⟩ := bindS hB1
  refine CallOk.gen (m := [(1000, 1000), (1001, 1001), (1002, 999)]) (n := [(999, 999)]) (wg_scrub_Intact_R0_2 hx3) (.cons (Ln.imm rfl) (.cons (Ln.imm rfl) (.nil))) ⟨⟨1000, _, rfl, rfl, .lp rfl ⟨rfl, Ln.b rfl, Q0⟩⟩, ⟨1001, _, rfl, rfl, .box (.cons (Ln.o rfl) (.nil))⟩, ⟨999, _, rfl, rfl, .refl rfl⟩, Q0⟩ rfl rfl rfl ?_
  refine wT [(0, .c (.yield l) [] []), (1, .b 1002 0), (2, .b 1003 0), (7, .s (mU p_b2.Servers)), (8, vi (p_b2.Servers.length : Int)), (9, vi s1.1), (20, vb (!true))] [(1000, .lp l .rdy Tryz.rf36_0 [(5, .b 1001 0)]), (1001, .box [.o 999]), (999, .own 3 1 (mU x3)), (1002, .box [vi p_b2.Id, vi p_b2.Ver, .s (mU p_b2.Servers)]), (1003, .box [.s (mC p_b3)])] Q7 ⟨hr, J4⟩ rfl ?_
  refine Ok.condF rfl ?_
  refine sk ?_
  refine rg ?_
  obtain ⟨hc1, hB1⟩ := chk_some hB1
  refine (Or.inl ⟨hc1, ?_⟩)
  exact ⟨_, sj hB1, wt Q6 ⟨hr, J4⟩ rfl⟩
 refine xt ?_
 have hB1 := out_ret hB1 hy1
 cases hB1
 exact wt Q1 ⟨hr, J4⟩ rfl
theorem wo_scrub_Intact {p_disks} {p_c} {r} (h : scrub_Intact p_disks p_c = some r) : POwn Tryz.prog 36 [(.s (mC p_disks)), (.a [(vi p_c.Id), (vi p_c.Ver), (.s (mU p_c.Servers))])] 3 1 (mU r) := by
 refine pw Tryz.tok 20 Tryz.func36 (by kernel_rfl) rfl rfl rfl ?_
 unfold scrub_Intact at h
 refine wE [(0, .s (mC p_disks)), (1, .a [vi p_c.Id, vi p_c.Ver, .s (mU p_c.Servers)])] Q2 ?_
 refine sg ?_
 refine wT [(0, .s (mC p_disks)), (3, .b 3 0)] [(3, .box [vi p_c.Id, vi p_c.Ver, .s (mU p_c.Servers)])] Q2 J1 rfl ?_
 refine sg ?_
 refine wT [(0, .s (mC p_disks)), (3, .b 3 0), (5, .b 5 0)] [(3, .box [vi p_c.Id, vi p_c.Ver, .s (mU p_c.Servers)]), (5, .box [.v (.slice none 0 0)])] Q3 J2 rfl ?_
 refine sq ?_
 refine sg ?_
 obtain ⟨x1, hx1, h⟩ := bindS h
 refine ⟨_, rfl, ?_⟩
 refine CallOk.gen (m := []) (n := [(3, 999), (2, 998)]) (wg_scrub_all hx1) (.cons (Ln.imm rfl) (.cons (Ln.imm rfl) (.nil))) Q0 rfl rfl rfl ?_
 refine wT [(5, .b 5 0), (10, .c (.func 90) [] [.b 999 0, .b 998 0])] [(5, .box [.v (.slice none 0 0)]), (999, .box [vi p_c.Id, vi p_c.Ver, .s (mU p_c.Servers)]), (998, .box [.s (mC p_disks)])] Q2 J3 rfl ?_
 refine bl ?_
 obtain ⟨x2, hx2, h⟩ := bindS h
 refine Ok.rangeFunc (lid := 997) (R0 := Tryz.rf36_0) (L := [(5, .b 5 0)]) (by kernel_rfl) rfl rfl Q1 (fun l => CallOk.gen (m := [(1000, 997), (1001, 5), (1002, 999), (1003, 998)]) (n := [(999, 996)]) (wg_scrub_all_1 hx2) (.cons (Ln.c .nil .nil) (.cons (Ln.b rfl) (.cons (Ln.b rfl) (.nil)))) ⟨⟨997, _, rfl, rfl, .lp rfl ⟨rfl, Ln.b rfl, Q0⟩⟩, ⟨5, _, rfl, rfl, .box (.cons (Ln.imm rfl) (.nil))⟩, ⟨999, _, rfl, rfl, .box (.cons (Ln.imm rfl) (.cons (Ln.imm rfl) (.cons (Ln.imm rfl) (.nil))))⟩, ⟨998, _, rfl, rfl, .box (.cons (Ln.imm rfl) (.nil))⟩, Q0⟩ rfl rfl rfl ⟨_, _, _, rfl, ?_⟩)
 refine wT [(5, .b 5 0)] [(5, .box [.o 996]), (996, .own 3 1 (mU x2))] Q1 J2 rfl ?_
 refine sg ?_
 refine ⟨_, rfl, ?_⟩
 refine wT [(4, .o 996)] [(996, .own 3 1 (mU x2))] Q1 J1 rfl ?_
 refine rt ?_
 cases h
 exact (.inr ⟨_, rfl, rfl⟩)
theorem w_scrub_Intact {p_disks} {p_c} {r} (h : scrub_Intact p_disks p_c = some r) : Pure Tryz.prog 36 [(.s (mC p_disks)), (.a [(vi p_c.Id), (vi p_c.Ver), (.s (mU p_c.Servers))])] (.s (mU r)) := (wo_scrub_Intact h).pure
theorem wg_scrub_Look_R0_2 {l : Nat} {p_a1 : Int} {p_a2 : Int} {p_b1 : api_Chain} {p_h3 : List api_Find} {r : (List api_Find)} (h : scrub_Look_R0_2 p_a1 p_a2 p_b1 p_h3 = some r) : CallOk Tryz.prog (.y l) [(vi p_a1), (vi p_a2)] ⟨noSlots, (1000, .lp l .rdy Tryz.rf37_0 [(3, (.b 1001 0)), (5, (.b 1002 0))]) :: [(1001, .box [(vi p_b1.Id), (vi p_b1.Ver), (.s (mU p_b1.Servers))]), (1002, .box [(.o 1003)]), (1003, .own 68 3 (mE p_h3))]⟩ fun x s => x = .v (.bool (LS.isR .rdy)) ∧ s.H = (1000, .lp l .rdy Tryz.rf37_0 [(3, (.b 1001 0)), (5, (.b 1002 0))]) :: [(1001, .box [(vi p_b1.Id), (vi p_b1.Ver), (.s (mU p_b1.Servers))]), (1002, .box [(.o 999)]), (999, .own 68 3 (mE r))] := by
 letI : Rnds := Rnds.yes
 refine yield_of_ok (e0 := .rdy) (H1 := [(1001, .box [vi p_b1.Id, vi p_b1.Ver, .s (mU p_b1.Servers)]), (1002, .box [.o 999]), (999, .own 68 3 (mE r))]) (by kernel_rfl) (by kernel_rfl) rfl rfl rfl ?_
 unfold scrub_Look_R0_2 at h
 refine wT [(3, .b 1001 0), (5, .b 1002 0), (11, vi p_a1), (12, vi p_a2)] [(1001, .box [vi p_b1.Id, vi p_b1.Ver, .s (mU p_b1.Servers)]), (1002, .box [.o 1003]), (1003, .own 68 3 (mE p_h3))] Q4 J3 rfl ?_
 refine sg ?_
 refine wT [(3, .b 1001 0), (5, .b 1002 0), (6, vi p_a1), (12, vi p_a2)] [(1001, .box [vi p_b1.Id, vi p_b1.Ver, .s (mU p_b1.Servers)]), (1002, .box [.o 1003]), (1003, .own 68 3 (mE p_h3))] Q4 J3 rfl ?_
 refine rg ?_
 refine wT [(3, .b 1001 0), (5, .b 1002 0), (6, vi p_a1), (7, vi p_a2)] [(1001, .box [vi p_b1.Id, vi p_b1.Ver, .s (mU p_b1.Servers)]), (1002, .box [.o 1003]), (1003, .own 68 3 (mE p_h3))] Q4 J3 rfl ?_
 refine bl ?_
 refine sg ?_
 refine wT [(3, .b 1001 0), (5, .b 1002 0), (6, vi p_a1), (7, vi p_a2), (14, vb (p_a2 != 0))] [(1001, .box [vi p_b1.Id, vi p_b1.Ver, .s (mU p_b1.Servers)]), (1002, .box [.o 1003]), (1003, .own 68 3 (mE p_h3))] Q5 J3 rfl ?_
 refine cn 14 (p_a2 != 0) rfl h (fun hb h => ?_) fun hb h => ?_
 ·refine Ok.wk (Wk.mv (i := 1003) (d := 999) rfl rfl rfl) ?_
  refine rg ?_
  obtain ⟨hc1, h⟩ := chk_some h
  refine ⟨_, rfl, _, rfl, Or.inl ⟨rowsLen_map (f := c_api_Find) (n := 3) (fun _ => rfl) ([(⟨p_b1.Id, p_a1, p_a2⟩ : api_Find)]), app_b2 (f := c_api_Find) (l := p_h3) (l' := [(⟨p_b1.Id, p_a1, p_a2⟩ : api_Find)]) hc1, _, (List.map_append (f := c_api_Find) (l₁ := p_h3) (l₂ := [(⟨p_b1.Id, p_a1, p_a2⟩ : api_Find)])).symm, _, rfl, ?_⟩⟩
  cases h
  exact ⟨rfl, wt Q0 ⟨⟨_, rfl, .refl _⟩, ⟨_, rfl, .refl _⟩, ⟨_, rfl, .refl _⟩, Q0⟩ rfl⟩
 refine sk ?_
 cases h
 exact ⟨rfl, (Wk.mv (i := 1003) (d := 999) rfl rfl rfl).trans (wt Q0 ⟨⟨_, rfl, .refl _⟩, ⟨_, rfl, .refl _⟩, ⟨_, rfl, .refl _⟩, Q0⟩ rfl)⟩
theorem wg_scrub_all_1_2 {l : Nat} {p_b1 : api_Chain} {p_b3 : api_Chain} {p_b4 : List api_Disk} {r : (List api_Find)} (h : scrub_all_1_2 p_b1 p_b3 p_b4 = some r) : CallOk Tryz.prog 90 [(.c (.yield l) [] []), (.b 1003 0), (.b 1004 0)] ⟨noSlots, [(1000, .lp l .rdy Tryz.rf37_0 [(3, (.b 1001 0)), (5, (.b 1002 0))]), (1001, .box [(vi p_b1.Id), (vi p_b1.Ver), (.s (mU p_b1.Servers))]), (1002, .box [(.v (.slice none 0 0))]), (1003, .box [(vi p_b3.Id), (vi p_b3.Ver), (.s (mU p_b3.Servers))]), (1004, .box [(.s (mC p_b4))])]⟩ fun x s => x = (.t []) ∧ s.H = [(1000, .lp l .rdy Tryz.rf37_0 [(3, (.b 1001 0)), (5, (.b 1002 0))]), (1001, .box [(vi p_b1.Id), (vi p_b1.Ver), (.s (mU p_b1.Servers))]), (1002, .box [(.o 999)]), (1003, .box [(vi p_b3.Id), (vi p_b3.Ver), (.s (mU p_b3.Servers))]), (1004, .box [(.s (mC p_b4))]), (999, .own 68 3 (mE r))] := by
 refine pgen_of_ok (n := 22) (c := Tryz.f90.body.getD .skip) Tryz.tok Tryz.func90 (by kernel_rfl) rfl rfl (Nat.le_of_ble_eq_true rfl) ?_
 unfold scrub_all_1_2 at h
 refine wT [(0, .c (.yield l) [] []), (1, .b 1003 0), (2, .b 1004 0)] [(1000, .lp l .rdy Tryz.rf37_0 [(3, .b 1001 0), (5, .b 1002 0)]), (1001, .box [vi p_b1.Id, vi p_b1.Ver, .s (mU p_b1.Servers)]), (1002, .box [.v (.slice none 0 0)]), (1003, .box [vi p_b3.Id, vi p_b3.Ver, .s (mU p_b3.Servers)]), (1004, .box [.s (mC p_b4)])] Q3 ⟨hr, J4⟩ rfl ?_
 refine sg ?_
 refine ⟨_, rfl, _, List.length_map _, fun _ => ?_⟩
 refine wT [(0, .c (.yield l) [] []), (1, .b 1003 0), (2, .b 1004 0), (7, .s (mU p_b3.Servers)), (8, vi (p_b3.Servers.length : Int)), (9, vi (0))] [(1000, .lp l .rdy Tryz.rf37_0 [(3, .b 1001 0), (5, .b 1002 0)]), (1001, .box [vi p_b1.Id, vi p_b1.Ver, .s (mU p_b1.Servers)]), (1002, .box [.v (.slice none 0 0)]), (1003, .box [vi p_b3.Id, vi p_b3.Ver, .s (mU p_b3.Servers)]), (1004, .box [.s (mC p_b4)])] Q6 ⟨hr, J4⟩ rfl ?_
 refine bl ?_
 refine Ok.loop (fun (s1 : Int × (List api_Find)) => ⟨Cat.tab [(0, .c (.yield l) [] []), (1, .b 1003 0), (2, .b 1004 0), (7, .s (mU p_b3.Servers)), (8, vi (p_b3.Servers.length : Int)), (9, vi s1.1)], [(1000, .lp l .rdy Tryz.rf37_0 [(3, .b 1001 0), (5, .b 1002 0)]), (1001, .box [vi p_b1.Id, vi p_b1.Ver, .s (mU p_b1.Servers)]), (1002, .box [.o 999]), (999, .own 68 3 (mE s1.2)), (1003, .box [vi p_b3.Id, vi p_b3.Ver, .s (mU p_b3.Servers)]), (1004, .box [.s (mC p_b4)])]⟩) (scrub_all_1_2_B1 p_b3 p_b4 p_b1) (s0 := (0, [])) h ((Wk.ownb (b := 1002) (q := 0) (id := 999) (E := 68) (K := 3) rfl rfl rfl).trans (wt Q6 ⟨⟨_, rfl, .refl _⟩, ⟨_, rfl, .refl _⟩, ⟨_, rfl, .refl _⟩, ⟨_, rfl, .refl _⟩, ⟨_, rfl, .refl _⟩, ⟨_, rfl, .refl _⟩, Q0⟩ rfl)) ?_
 intro s1 y1 hB1 hy1
 unfold scrub_all_1_2_B1 at hB1
 refine sg ?_
 refine wT [(0, .c (.yield l) [] []), (1, .b 1003 0), (2, .b 1004 0), (7, .s (mU p_b3.Servers)), (8, vi (p_b3.Servers.length : Int)), (9, vi s1.1), (10, vb (decide (s1.1 < (p_b3.Servers.length : Int))))] [(1000, .lp l .rdy Tryz.rf37_0 [(3, .b 1001 0), (5, .b 1002 0)]), (1001, .box [vi p_b1.Id, vi p_b1.Ver, .s (mU p_b1.Servers)]), (1002, .box [.o 999]), (999, .own 68 3 (mE s1.2)), (1003, .box [vi p_b3.Id, vi p_b3.Ver, .s (mU p_b3.Servers)]), (1004, .box [.s (mC p_b4)])] Q7 ⟨hr, hr, J4⟩ rfl ?_
 refine sq ?_
 refine cn 10 (decide (s1.1 < (p_b3.Servers.length : Int))) rfl hB1 (fun hb hB1 => ?_) fun hb hB1 => ?_
 ·refine sk ?_
  refine sq ?_
  refine bl ?_
  refine sg ?_
  obtain ⟨x1, hx1, hB1⟩ := bindS hB1
  refine ⟨_, idx_nat hx1, _, idx_row hx1, _, rfl, ?_⟩
  refine wT [(0, .c (.yield l) [] []), (1, .b 1003 0), (2, .b 1004 0), (5, vi x1), (7, .s (mU p_b3.Servers)), (8, vi (p_b3.Servers.length : Int)), (9, vi s1.1)] [(1000, .lp l .rdy Tryz.rf37_0 [(3, .b 1001 0), (5, .b 1002 0)]), (1001, .box [vi p_b1.Id, vi p_b1.Ver, .s (mU p_b1.Servers)]), (1002, .box [.o 999]), (999, .own 68 3 (mE s1.2)), (1003, .box [vi p_b3.Id, vi p_b3.Ver, .s (mU p_b3.Servers)]), (1004, .box [.s (mC p_b4)])] Q7 ⟨hr, hr, J4⟩ rfl ?_
  refine sg ?_
  obtain ⟨x2, hx2, hB1⟩ := bindS hB1
  refine ⟨_, rfl, _, rfl, ?_⟩
  refine CallOk.call (w_scrub_stands hx2) (LeL.refl _) ?_
  obtain ⟨x3, hx3, hB1⟩ := bindS hB1
  refine CallOk.gen (m := [(1000, 1000), (1001, 1001), (1002, 1002), (1003, 999)]) (n := [(999, 999)]) (wg_scrub_Look_R0_2 hx3) (.cons (Ln.imm rfl) (.cons (Ln.imm rfl) (.nil))) ⟨⟨1000, _, rfl, rfl, .lp rfl ⟨rfl, Ln.b rfl, rfl, Ln.b rfl, Q0⟩⟩, ⟨1001, _, rfl, rfl, .box (.cons (Ln.imm rfl) (.cons (Ln.imm rfl) (.cons (Ln.imm rfl) (.nil))))⟩, ⟨1002, _, rfl, rfl, .box (.cons (Ln.o rfl) (.nil))⟩, ⟨999, _, rfl, rfl, .refl rfl⟩, Q0⟩ rfl rfl rfl ?_
  refine wT [(0, .c (.yield l) [] []), (1, .b 1003 0), (2, .b 1004 0), (7, .s (mU p_b3.Servers)), (8, vi (p_b3.Servers.length : Int)), (9, vi s1.1), (20, vb (!true))] [(1000, .lp l .rdy Tryz.rf37_0 [(3, .b 1001 0), (5, .b 1002 0)]), (1001, .box [vi p_b1.Id, vi p_b1.Ver, .s (mU p_b1.Servers)]), (1002, .box [.o 999]), (999, .own 68 3 (mE x3)), (1003, .box [vi p_b3.Id, vi p_b3.Ver, .s (mU p_b3.Servers)]), (1004, .box [.s (mC p_b4)])] Q7 ⟨hr, hr, J4⟩ rfl ?_
  refine Ok.condF rfl ?_
  refine sk ?_
  refine rg ?_
  obtain ⟨hc1, hB1⟩ := chk_some hB1
  refine (Or.inl ⟨hc1, ?_⟩)
  exact ⟨_, sj hB1, wt Q6 ⟨hr, hr, J4⟩ rfl⟩
 refine xt ?_
 have hB1 := out_ret hB1 hy1
 cases hB1
 exact wt Q1 ⟨hr, hr, J4⟩ rfl
theorem wo_scrub_Look {p_disks} {p_c} {r} (h : scrub_Look p_disks p_c = some r) : POwn Tryz.prog 37 [(.s (mC p_disks)), (.a [(vi p_c.Id), (vi p_c.Ver), (.s (mU p_c.Servers))])] 68 3 (mE r) := by
 refine pw Tryz.tok 24 Tryz.func37 (by kernel_rfl) rfl rfl rfl ?_
 unfold scrub_Look at h
 refine wE [(0, .s (mC p_disks)), (1, .a [vi p_c.Id, vi p_c.Ver, .s (mU p_c.Servers)])] Q2 ?_
 refine sg ?_
 refine wT [(0, .s (mC p_disks)), (3, .b 3 0)] [(3, .box [vi p_c.Id, vi p_c.Ver, .s (mU p_c.Servers)])] Q2 J1 rfl ?_
 refine sg ?_
 refine wT [(0, .s (mC p_disks)), (3, .b 3 0), (5, .b 5 0)] [(3, .box [vi p_c.Id, vi p_c.Ver, .s (mU p_c.Servers)]), (5, .box [.v (.slice none 0 0)])] Q3 J2 rfl ?_
 refine sq ?_
 refine sg ?_
 obtain ⟨x1, hx1, h⟩ := bindS h
 refine ⟨_, rfl, ?_⟩
 refine CallOk.gen (m := []) (n := [(3, 999), (2, 998)]) (wg_scrub_all hx1) (.cons (Ln.imm rfl) (.cons (Ln.imm rfl) (.nil))) Q0 rfl rfl rfl ?_
 refine wT [(3, .b 3 0), (5, .b 5 0), (10, .c (.func 90) [] [.b 999 0, .b 998 0])] [(3, .box [vi p_c.Id, vi p_c.Ver, .s (mU p_c.Servers)]), (5, .box [.v (.slice none 0 0)]), (999, .box [vi p_c.Id, vi p_c.Ver, .s (mU p_c.Servers)]), (998, .box [.s (mC p_disks)])] Q3 J4 rfl ?_
 refine bl ?_
 obtain ⟨x2, hx2, h⟩ := bindS h
 refine Ok.rangeFunc (lid := 997) (R0 := Tryz.rf37_0) (L := [(3, .b 3 0), (5, .b 5 0)]) (by kernel_rfl) rfl rfl Q2 (fun l => CallOk.gen (m := [(1000, 997), (1001, 3), (1002, 5), (1003, 999), (1004, 998)]) (n := [(999, 996)]) (wg_scrub_all_1_2 hx2) (.cons (Ln.c .nil .nil) (.cons (Ln.b rfl) (.cons (Ln.b rfl) (.nil)))) ⟨⟨997, _, rfl, rfl, .lp rfl ⟨rfl, Ln.b rfl, rfl, Ln.b rfl, Q0⟩⟩, ⟨3, _, rfl, rfl, .box (.cons (Ln.imm rfl) (.cons (Ln.imm rfl) (.cons (Ln.imm rfl) (.nil))))⟩, ⟨5, _, rfl, rfl, .box (.cons (Ln.imm rfl) (.nil))⟩, ⟨999, _, rfl, rfl, .box (.cons (Ln.imm rfl) (.cons (Ln.imm rfl) (.cons (Ln.imm rfl) (.nil))))⟩, ⟨998, _, rfl, rfl, .box (.cons (Ln.imm rfl) (.nil))⟩, Q0⟩ rfl rfl rfl ⟨_, _, _, rfl, ?_⟩)
 refine wT [(5, .b 5 0)] [(5, .box [.o 996]), (996, .own 68 3 (mE x2))] Q1 J2 rfl ?_
 refine sg ?_
 refine ⟨_, rfl, ?_⟩
 refine wT [(4, .o 996)] [(996, .own 68 3 (mE x2))] Q1 J1 rfl ?_
 refine rt ?_
 cases h
 exact (.inr ⟨_, rfl, rfl⟩)
theorem w_scrub_Plan_1 {p_a} {p_b} {r} (h : scrub_Plan_1 p_a p_b = some r) : Pure Tryz.prog 39 [(.a [(vi p_a.Id), (vi p_a.Server), (vi p_a.What)]), (.a [(vi p_b.Id), (vi p_b.Server), (vi p_b.What)])] (vi r) := by
 refine po Tryz.tok 10 Tryz.func39 (by kernel_rfl) rfl rfl rfl ?_
 unfold scrub_Plan_1 at h
 refine wE [(0, .a [vi p_a.Id, vi p_a.Server, vi p_a.What]), (1, .a [vi p_b.Id, vi p_b.Server, vi p_b.What])] Q2 ?_
 refine sg ?_
 refine wT [(2, .b 2 0), (3, .b 3 0)] [(2, .box [vi p_a.Id, vi p_a.Server, vi p_a.What]), (3, .box [vi p_b.Id, vi p_b.Server, vi p_b.What])] Q2 J2 rfl ?_
 refine sg ?_
 obtain ⟨x1, hx1, h⟩ := bindS h
 refine ⟨_, rfl, _, rfl, ?_⟩
 refine CallOk.call (w_cmp_Compare_int hx1) (LeL.refl _) ?_
 refine wE [(4, vi x1)] Q1 ?_
 refine rt ?_
 cases h
 exact Fz.v
theorem w_slices_Index_int_int {p_s} {p_v} {r} (h : slices_Index_int_int p_s p_v = some r) : Pure Tryz.prog 67 [(.s (mU p_s)), (vi p_v)] (vi r) := by
 refine po Tryz.tok 19 Tryz.func67 (by kernel_rfl) rfl rfl rfl ?_
 unfold slices_Index_int_int at h
 refine wE [(0, .s (mU p_s)), (1, vi p_v)] Q2 ?_
 refine sg ?_
 refine wE [(0, .s (mU p_s)), (1, vi p_v)] Q2 ?_
 refine Ok.seqj (fun v1 => ⟨Cat.tab [], []⟩) (fun v1 => slices_Index_int_int_J1 v1 = some r) ?_ ?_
 ·refine sg ?_
  refine ⟨_, List.length_map _, fun _ => ?_⟩
  refine wE [(0, .s (mU p_s)), (1, vi p_v), (7, vi (p_s.length : Int)), (8, vi (0))] Q4 ?_
  refine bl ?_
  refine Ok.loop (fun (s1 : Int) => ⟨Cat.tab [(0, .s (mU p_s)), (1, vi p_v), (7, vi (p_s.length : Int)), (8, vi s1)], []⟩) (slices_Index_int_int_B1 p_s p_v) (s0 := 0) h (wt Q4 Q0 rfl) ?_
  intro s1 y1 hB1 hy1
  unfold slices_Index_int_int_B1 at hB1
  refine sg ?_
  refine wE [(0, .s (mU p_s)), (1, vi p_v), (7, vi (p_s.length : Int)), (8, vi s1), (9, vb (decide (s1 < (p_s.length : Int))))] Q5 ?_
  refine sq ?_
  refine cn 9 (decide (s1 < (p_s.length : Int))) rfl hB1 (fun hb hB1 => ?_) fun hb hB1 => ?_
  ·refine sk ?_
   refine sq ?_
   refine bl ?_
   refine sg ?_
   refine wE [(0, .s (mU p_s)), (1, vi p_v), (5, vi s1), (7, vi (p_s.length : Int)), (8, vi s1)] Q5 ?_
   refine sg ?_
   obtain ⟨x1, hx1, hB1⟩ := bindS hB1
   refine ⟨_, idx_nat hx1, _, idx_row hx1, _, rfl, ?_⟩
   refine wE [(0, .s (mU p_s)), (1, vi p_v), (5, vi s1), (7, vi (p_s.length : Int)), (8, vi s1), (16, vb (p_v == x1))] Q6 ?_
   refine cn 16 (p_v == x1) rfl hB1 (fun hb hB1 => ?_) fun hb hB1 => ?_
   ·refine sg ?_
    refine wE [(4, vi s1)] Q1 ?_
    refine rt ?_
    have hB1 := out_ret hB1 hy1
    cases hB1
    exact Fz.v
   refine sk ?_
   refine rg ?_
   obtain ⟨hc1, hB1⟩ := chk_some hB1
   refine (Or.inl ⟨hc1, ?_⟩)
   exact ⟨_, sj hB1, wt Q4 Q0 rfl⟩
  refine xt ?_
  have hB1 := out_ret hB1 hy1
  exact ⟨_, hB1, wt Q0 Q0 rfl⟩
 intro v1 h
 unfold slices_Index_int_int_J1 at h
 refine sg ?_
 refine wE [(4, vi (-1))] Q1 ?_
 refine rt ?_
 cases h
 exact Fz.v
theorem w_scrub_next_1 {p_x} {p_a1_0} {p_a1_1} {p_a1_2} {p_a2_0} {r} (h : scrub_next_1 p_x p_a1_0 p_a1_1 p_a1_2 p_a2_0 = some r) : Pure Tryz.prog 68 [(vi p_x), (.p [(vi p_a1_0), (vi p_a1_1), (.s (mU p_a1_2))]), (.p [(vi p_a2_0)])] (vb r) := by
 refine po Tryz.tok 11 Tryz.func68 (by kernel_rfl) rfl rfl rfl ?_
 unfold scrub_next_1 at h
 refine wE [(0, vi p_x), (1, .p [vi p_a1_0, vi p_a1_1, .s (mU p_a1_2)]), (2, .p [vi p_a2_0])] Q3 ?_
 refine sg ?_
 refine wE [(0, vi p_x), (1, .p [vi p_a1_0, vi p_a1_1, .s (mU p_a1_2)]), (2, .p [vi p_a2_0])] Q3 ?_
 refine sq ?_
 refine Ok.draw (m := 7) (MD := ⟨[]⟩) (CH := ⟨[]⟩) Tryz.tok Tryz.mixed (by kernel_rfl) ?_
 obtain ⟨x1, hx1, h⟩ := bindS h
 refine ⟨_, rfl, _, ⟨_, rfl, rfl⟩, _, rfl, _, ⟨_, .of_pure (w_slices_Index_int_int hx1) (LeL.refl _), rfl⟩, _, ⟨_, rfl, rfl⟩, _, rfl, _, rfl, Q0, ?_⟩
 refine wE [(4, vb (decide (x1 > p_a2_0)))] Q1 ?_
 refine rt ?_
 cases h
 exact Fz.v
theorem w_slices_IndexFunc_int_int__scrub_next_1 {p_s} {p_f_c0} {p_f_c1} {r} (h : slices_IndexFunc_int_int__scrub_next_1 p_s p_f_c0 p_f_c1 = some r) : Pure Tryz.prog 69 [(.s (mU p_s)), (.c (.func 68) [] [(.p [(vi p_f_c0.Id), (vi p_f_c0.Ver), (.s (mU p_f_c0.Servers))]), (.p [(vi p_f_c1)])])] (vi r) := by
 refine po Tryz.tok 19 Tryz.func69 (by kernel_rfl) rfl rfl rfl ?_
 unfold slices_IndexFunc_int_int__scrub_next_1 at h
 refine wE [(0, .s (mU p_s)), (1, .c (.func 68) [] [.p [vi p_f_c0.Id, vi p_f_c0.Ver, .s (mU p_f_c0.Servers)], .p [vi p_f_c1]])] Q2 ?_
 refine sg ?_
 refine wE [(0, .s (mU p_s)), (1, .c (.func 68) [] [.p [vi p_f_c0.Id, vi p_f_c0.Ver, .s (mU p_f_c0.Servers)], .p [vi p_f_c1]])] Q2 ?_
 refine Ok.seqj (fun v1 => ⟨Cat.tab [], []⟩) (fun v1 => slices_IndexFunc_int_int__scrub_next_1_J1 v1 = some r) ?_ ?_
 ·refine sg ?_
  refine ⟨_, List.length_map _, fun _ => ?_⟩
  refine wE [(0, .s (mU p_s)), (1, .c (.func 68) [] [.p [vi p_f_c0.Id, vi p_f_c0.Ver, .s (mU p_f_c0.Servers)], .p [vi p_f_c1]]), (7, vi (p_s.length : Int)), (8, vi (0))] Q4 ?_
  refine bl ?_
  refine Ok.loop (fun (s1 : Int) => ⟨Cat.tab [(0, .s (mU p_s)), (1, .c (.func 68) [] [.p [vi p_f_c0.Id, vi p_f_c0.Ver, .s (mU p_f_c0.Servers)], .p [vi p_f_c1]]), (7, vi (p_s.length : Int)), (8, vi s1)], []⟩) (slices_IndexFunc_int_int__scrub_next_1_B1 p_s p_f_c0 p_f_c1) (s0 := 0) h (wt Q4 Q0 rfl) ?_
  intro s1 y1 hB1 hy1
  unfold slices_IndexFunc_int_int__scrub_next_1_B1 at hB1
  refine sg ?_
  refine wE [(0, .s (mU p_s)), (1, .c (.func 68) [] [.p [vi p_f_c0.Id, vi p_f_c0.Ver, .s (mU p_f_c0.Servers)], .p [vi p_f_c1]]), (7, vi (p_s.length : Int)), (8, vi s1), (9, vb (decide (s1 < (p_s.length : Int))))] Q5 ?_
  refine sq ?_
  refine cn 9 (decide (s1 < (p_s.length : Int))) rfl hB1 (fun hb hB1 => ?_) fun hb hB1 => ?_
  ·refine sk ?_
   refine sq ?_
   refine bl ?_
   refine sg ?_
   refine wE [(0, .s (mU p_s)), (1, .c (.func 68) [] [.p [vi p_f_c0.Id, vi p_f_c0.Ver, .s (mU p_f_c0.Servers)], .p [vi p_f_c1]]), (5, vi s1), (7, vi (p_s.length : Int)), (8, vi s1)] Q5 ?_
   refine sg ?_
   obtain ⟨x1, hx1, hB1⟩ := bindS hB1
   obtain ⟨x2, hx2, hB1⟩ := bindS hB1
   refine ⟨_, idx_nat hx1, _, idx_row hx1, _, rfl, ?_⟩
   refine CallOk.call (w_scrub_next_1 hx2) (LeL.refl _) ?_
   refine wE [(0, .s (mU p_s)), (1, .c (.func 68) [] [.p [vi p_f_c0.Id, vi p_f_c0.Ver, .s (mU p_f_c0.Servers)], .p [vi p_f_c1]]), (5, vi s1), (7, vi (p_s.length : Int)), (8, vi s1), (16, vb x2)] Q6 ?_
   refine cn 16 (x2) rfl hB1 (fun hb hB1 => ?_) fun hb hB1 => ?_
   ·refine sg ?_
    refine wE [(4, vi s1)] Q1 ?_
    refine rt ?_
    have hB1 := out_ret hB1 hy1
    cases hB1
    exact Fz.v
   refine sk ?_
   refine rg ?_
   obtain ⟨hc1, hB1⟩ := chk_some hB1
   refine (Or.inl ⟨hc1, ?_⟩)
   exact ⟨_, sj hB1, wt Q4 Q0 rfl⟩
  refine xt ?_
  have hB1 := out_ret hB1 hy1
  exact ⟨_, hB1, wt Q0 Q0 rfl⟩
 intro v1 h
 unfold slices_IndexFunc_int_int__scrub_next_1_J1 at h
 refine sg ?_
 refine wE [(4, vi (-1))] Q1 ?_
 refine rt ?_
 cases h
 exact Fz.v
theorem w_scrub_next {p_c} {p_own} {p_s} {r} (h : scrub_next p_c p_own p_s = some r) : Pure Tryz.prog 41 [(.a [(vi p_c.Id), (vi p_c.Ver), (.s (mU p_c.Servers))]), (.s (mU p_own)), (vi p_s)] (vi r) := by
 refine po Tryz.tok 30 Tryz.func41 (by kernel_rfl) rfl rfl rfl ?_
 unfold scrub_next at h
 refine wE [(0, .a [vi p_c.Id, vi p_c.Ver, .s (mU p_c.Servers)]), (1, .s (mU p_own)), (2, vi p_s)] Q3 ?_
 refine sg ?_
 refine wT [(1, .s (mU p_own)), (2, vi p_s), (3, .b 3 0)] [(3, .box [vi p_c.Id, vi p_c.Ver, .s (mU p_c.Servers)])] Q3 J1 rfl ?_
 refine sg ?_
 obtain ⟨x1, hx1, h⟩ := bindS h
 refine ⟨_, rfl, ?_⟩
 refine CallOk.call (w_slices_Index_int_int hx1) (LeL.refl _) ?_
 refine ⟨_, rfl, ?_⟩
 refine wT [(1, .s (mU p_own)), (3, .b 3 0), (7, .b 7 0)] [(3, .box [vi p_c.Id, vi p_c.Ver, .s (mU p_c.Servers)]), (7, .box [vi x1])] Q3 J2 rfl ?_
 refine sg ?_
 refine wT [(1, .s (mU p_own)), (8, .c (.func 68) [] [.b 3 0, .b 7 0])] [(3, .box [vi p_c.Id, vi p_c.Ver, .s (mU p_c.Servers)]), (7, .box [vi x1])] Q2 J2 rfl ?_
 refine sq ?_
 refine sg ?_
 obtain ⟨x2, hx2, h⟩ := bindS h
 refine CallOk.borrow (w_slices_IndexFunc_int_int__scrub_next_1 hx2) (.cons Fz.s (.cons (Fz.c .nil (.cons (Fz.b rfl rfl) (.cons (Fz.b rfl rfl) .nil))) (.nil))) rfl ?_
 refine wE [(1, .s (mU p_own)), (9, vi x2)] Q2 ?_
 refine sg ?_
 refine wE [(1, .s (mU p_own)), (9, vi x2), (19, vb (decide (x2 ≥ 0)))] Q3 ?_
 refine cn 19 (decide (x2 ≥ 0)) rfl h (fun hb h => ?_) fun hb h => ?_
 ·refine sg ?_
  obtain ⟨x3, hx3, h⟩ := bindS h
  refine ⟨_, idx_nat hx3, _, idx_row hx3, _, rfl, ?_⟩
  refine wE [(6, vi x3)] Q1 ?_
  refine rt ?_
  cases h
  exact Fz.v
 refine sk ?_
 refine sg ?_
 obtain ⟨hc1, h⟩ := chk_some h
 obtain ⟨x4, hx4, h⟩ := bindS h
 refine ⟨_, List.length_map _, fun _ => (Or.inl ⟨hc1, _, idx_nat hx4, _, idx_row hx4, _, rfl, ?_⟩)⟩
 refine wE [(6, vi x4)] Q1 ?_
 refine rt ?_
 cases h
 exact Fz.v
theorem w_scrub_Plan {p_disks} {p_l} {r} (h : scrub_Plan p_disks p_l = some r) : Pure Tryz.prog 15 [(.s (mC p_disks)), (.s (mD p_l))] (.t [(.s (mB r.1)), (.s (mU r.2))]) := by
 refine po Tryz.tok 84 Tryz.func15 (by kernel_rfl) rfl rfl rfl ?_
 unfold scrub_Plan at h
 refine wE [(0, .s (mC p_disks)), (1, .s (mD p_l))] Q2 ?_
 refine sg ?_
 refine wE [(0, .s (mC p_disks)), (1, .s (mD p_l))] Q2 ?_
 refine sg ?_
 refine wE [(0, .s (mC p_disks)), (1, .s (mD p_l)), (6, .v (.slice none 0 0))] Q3 ?_
 refine sg ?_
 refine wE [(0, .s (mC p_disks)), (1, .s (mD p_l)), (6, .v (.slice none 0 0)), (7, .v (.slice none 0 0))] Q4 ?_
 obtain ⟨v1, hv1, h⟩ := bindS h
 refine Ok.seqw ⟨Cat.tab [(6, .o 79), (7, .o 33)], [(79, .own 47 6 (mB v1.1)), (33, .own 3 1 (mU v1.2))]⟩ ?_ ?_
 ·refine sg ?_
  refine ⟨_, List.length_map _, fun _ => ?_⟩
  refine wE [(0, .s (mC p_disks)), (6, .v (.slice none 0 0)), (7, .v (.slice none 0 0)), (17, .s (mD p_l)), (18, vi (p_l.length : Int)), (19, vi (0))] Q6 ?_
  refine bl ?_
  refine Ok.loop (fun (s1 : Int × (List api_Job) × (List Int)) => ⟨Cat.tab [(0, .s (mC p_disks)), (6, .o 79), (7, .o 33), (17, .s (mD p_l)), (18, vi (p_l.length : Int)), (19, vi s1.1)], [(79, .own 47 6 (mB s1.2.1)), (33, .own 3 1 (mU s1.2.2))]⟩) (scrub_Plan_B1 p_l p_disks) (s0 := (0, [], [])) hv1 ((Wk.own0 (t := 6) (id := 79) (E := 47) (K := 6) rfl rfl).trans ((Wk.own0 (t := 7) (id := 33) (E := 3) (K := 1) rfl rfl).trans (wt Q6 ⟨⟨_, rfl, .refl _⟩, ⟨_, rfl, .refl _⟩, Q0⟩ rfl))) ?_
  intro s1 y1 hB1 hy1
  unfold scrub_Plan_B1 at hB1
  refine sg ?_
  refine wT [(0, .s (mC p_disks)), (6, .o 79), (7, .o 33), (17, .s (mD p_l)), (18, vi (p_l.length : Int)), (19, vi s1.1), (20, vb (decide (s1.1 < (p_l.length : Int))))] [(79, .own 47 6 (mB s1.2.1)), (33, .own 3 1 (mU s1.2.2))] Q7 J2 rfl ?_
  refine sq ?_
  refine cn 20 (decide (s1.1 < (p_l.length : Int))) rfl hB1 (fun hb hB1 => ?_) fun hb hB1 => ?_
  ·refine sk ?_
   obtain ⟨v2, hv2, hB1⟩ := bindS hB1
   refine Ok.seqw ⟨Cat.tab [(0, .s (mC p_disks)), (6, .o 79), (7, .o 33), (17, .s (mD p_l)), (18, vi (p_l.length : Int)), (19, vi s1.1)], [(79, .own 47 6 (mB v2.1)), (33, .own 3 1 (mU v2.2))]⟩ ?_ ?_
   ·refine bl ?_
    refine sg ?_
    obtain ⟨x1, hx1, hv2⟩ := bindS hv2
    refine ⟨_, idx_nat hx1, _, idx_row hx1, _, rfl, _, rfl, ?_⟩
    refine wT [(0, .s (mC p_disks)), (6, .o 79), (7, .o 33), (9, .b 9 0), (17, .s (mD p_l)), (18, vi (p_l.length : Int)), (19, vi s1.1)] [(79, .own 47 6 (mB s1.2.1)), (33, .own 3 1 (mU s1.2.2)), (9, .box [vi x1.Id, vi x1.Ver, .s (mU x1.Servers)])] Q7 J3 rfl ?_
    refine sg ?_
    obtain ⟨x2, hx2, hv2⟩ := bindS hv2
    refine ⟨_, rfl, ?_⟩
    refine CallOk.call (w_scrub_Intact hx2) (LeL.refl _) ?_
    refine wT [(0, .s (mC p_disks)), (6, .o 79), (7, .o 33), (9, .b 9 0), (10, .s (mU x2)), (17, .s (mD p_l)), (18, vi (p_l.length : Int)), (19, vi s1.1)] [(79, .own 47 6 (mB s1.2.1)), (33, .own 3 1 (mU s1.2.2)), (9, .box [vi x1.Id, vi x1.Ver, .s (mU x1.Servers)])] Q8 J3 rfl ?_
    refine sq ?_
    refine sg ?_
    refine ⟨_, List.length_map _, fun _ => ?_⟩
    refine wT [(0, .s (mC p_disks)), (6, .o 79), (7, .o 33), (9, .b 9 0), (10, .s (mU x2)), (17, .s (mD p_l)), (18, vi (p_l.length : Int)), (19, vi s1.1), (28, vb ((x2.length : Int) == 0))] [(79, .own 47 6 (mB s1.2.1)), (33, .own 3 1 (mU s1.2.2)), (9, .box [vi x1.Id, vi x1.Ver, .s (mU x1.Servers)])] ⟨lr, Q8⟩ J3 rfl ?_
    refine cn 28 ((x2.length : Int) == 0) rfl hv2 (fun hb hv2 => ?_) fun hb hv2 => ?_
    ·refine sg ?_
     obtain ⟨hc1, hv2⟩ := chk_some hv2
     refine ⟨_, rfl, Or.inl ⟨rowsLen_map (f := Go.Cat.encI) (n := 1) (fun _ => rfl) ([x1.Id]), app_b2 (f := Go.Cat.encI) (l := s1.2.2) (l' := [x1.Id]) hc1, _, (List.map_append (f := Go.Cat.encI) (l₁ := s1.2.2) (l₂ := [x1.Id])).symm, ?_⟩⟩
     refine wT [(0, .s (mC p_disks)), (6, .o 79), (7, .o 33), (17, .s (mD p_l)), (18, vi (p_l.length : Int)), (19, vi s1.1)] [(79, .own 47 6 (mB s1.2.1)), (33, .own 3 1 (mU (s1.2.2 ++ [x1.Id])))] Q6 J2 rfl ?_
     refine xt ?_
     cases hv2
     exact wt Q6 J2 rfl
    refine sk ?_
    refine sg ?_
    obtain ⟨x3, hx3, hv2⟩ := bindS hv2
    refine ⟨_, rfl, ?_⟩
    refine CallOk.own (D := 36) (wo_scrub_Look hx3) (LeL.refl _) rfl ?_
    refine wT [(0, .s (mC p_disks)), (6, .o 79), (7, .o 33), (9, .b 9 0), (10, .s (mU x2)), (11, .o 36), (17, .s (mD p_l)), (18, vi (p_l.length : Int)), (19, vi s1.1)] [(79, .own 47 6 (mB s1.2.1)), (33, .own 3 1 (mU s1.2.2)), (9, .box [vi x1.Id, vi x1.Ver, .s (mU x1.Servers)]), (36, .own 68 3 (mE x3))] ⟨lr, Q8⟩ J4 rfl ?_
    refine sg ?_
    obtain ⟨x4, hx4, hv2⟩ := bindS hv2
    refine CallOk.chgLe (id := 36) (pchg_sortF (E := 68) (enc := c_api_Find) Tryz.says38 Tryz.enters38 (fun _ => rfl) (fun _ => rfl) (fun _ _ _ h => w_scrub_Plan_1 (M := Mono.yes) h) (enters_of Tryz.func39 (by kernel_rfl) rfl) hx4) rfl (.refl _) rfl (.cons Lr.o (.cons (Lr.imm rfl) .nil)) ?_
    rintro _ _ ⟨rfl, rfl⟩
    refine wT [(0, .s (mC p_disks)), (6, .o 79), (7, .o 33), (9, .b 9 0), (10, .s (mU x2)), (11, .o 36), (17, .s (mD p_l)), (18, vi (p_l.length : Int)), (19, vi s1.1)] [(79, .own 47 6 (mB s1.2.1)), (33, .own 3 1 (mU s1.2.2)), (9, .box [vi x1.Id, vi x1.Ver, .s (mU x1.Servers)]), (36, .own 68 3 (mE x4))] ⟨lr, Q8⟩ J4 rfl ?_
    refine sg ?_
    refine ⟨_, List.length_map _, fun _ => ?_⟩
    refine wT [(0, .s (mC p_disks)), (6, .o 79), (7, .o 33), (9, .b 9 0), (10, .s (mU x2)), (17, .s (mD p_l)), (18, vi (p_l.length : Int)), (19, vi s1.1), (39, .o 36), (40, vi (x4.length : Int)), (41, vi (0))] [(79, .own 47 6 (mB s1.2.1)), (33, .own 3 1 (mU s1.2.2)), (9, .box [vi x1.Id, vi x1.Ver, .s (mU x1.Servers)]), (36, .own 68 3 (mE x4))] ⟨lr, lr, lr, Q8⟩ J4 rfl ?_
    refine bl ?_
    refine Ok.loop (fun (s2 : Int × (List api_Job)) => ⟨Cat.tab [(0, .s (mC p_disks)), (6, .o 79), (7, .o 33), (9, .b 9 0), (10, .s (mU x2)), (17, .s (mD p_l)), (18, vi (p_l.length : Int)), (19, vi s1.1), (39, .o 36), (40, vi (x4.length : Int)), (41, vi s2.1)], [(79, .own 47 6 (mB s2.2)), (33, .own 3 1 (mU s1.2.2)), (9, .box [vi x1.Id, vi x1.Ver, .s (mU x1.Servers)]), (36, .own 68 3 (mE x4))]⟩) (scrub_Plan_B2 x4 x1 x2 p_disks s1) (s0 := (0, s1.2.1)) hv2 (wt ⟨lr, lr, lr, Q8⟩ ⟨⟨_, rfl, .refl _⟩, ⟨_, rfl, .refl _⟩, ⟨_, rfl, .refl _⟩, ⟨_, rfl, .refl _⟩, Q0⟩ rfl) ?_
    intro s2 y2 hB2 hy2
    unfold scrub_Plan_B2 at hB2
    refine sg ?_
    refine wT [(0, .s (mC p_disks)), (6, .o 79), (7, .o 33), (9, .b 9 0), (10, .s (mU x2)), (17, .s (mD p_l)), (18, vi (p_l.length : Int)), (19, vi s1.1), (39, .o 36), (40, vi (x4.length : Int)), (41, vi s2.1), (42, vb (decide (s2.1 < (x4.length : Int))))] [(79, .own 47 6 (mB s2.2)), (33, .own 3 1 (mU s1.2.2)), (9, .box [vi x1.Id, vi x1.Ver, .s (mU x1.Servers)]), (36, .own 68 3 (mE x4))] ⟨lr, lr, lr, lr, Q8⟩ J4 rfl ?_
    refine sq ?_
    refine cn 42 (decide (s2.1 < (x4.length : Int))) rfl hB2 (fun hb hB2 => ?_) fun hb hB2 => ?_
    ·refine sk ?_
     obtain ⟨v3, hv3, hB2⟩ := bindS hB2
     refine Ok.seqw ⟨Cat.tab [(0, .s (mC p_disks)), (6, .o 79), (7, .o 33), (9, .b 9 0), (10, .s (mU x2)), (17, .s (mD p_l)), (18, vi (p_l.length : Int)), (19, vi s1.1), (39, .o 36), (40, vi (x4.length : Int)), (41, vi s2.1)], [(79, .own 47 6 (mB v3)), (33, .own 3 1 (mU s1.2.2)), (9, .box [vi x1.Id, vi x1.Ver, .s (mU x1.Servers)]), (36, .own 68 3 (mE x4))]⟩ ?_ ?_
     ·refine bl ?_
      refine sg ?_
      obtain ⟨x5, hx5, hv3⟩ := bindS hv3
      refine ⟨_, idx_nat hx5, idx_ltm hx5, _, idx_row hx5, rfl, _, rfl, _, rfl, ?_⟩
      refine wT [(0, .s (mC p_disks)), (6, .o 79), (7, .o 33), (9, .b 9 0), (10, .s (mU x2)), (13, .b 13 0), (17, .s (mD p_l)), (18, vi (p_l.length : Int)), (19, vi s1.1), (39, .o 36), (40, vi (x4.length : Int)), (41, vi s2.1)] [(79, .own 47 6 (mB s2.2)), (33, .own 3 1 (mU s1.2.2)), (9, .box [vi x1.Id, vi x1.Ver, .s (mU x1.Servers)]), (13, .box [vi x5.Id, vi x5.Server, vi x5.What]), (36, .own 68 3 (mE x4))] ⟨lr, lr, lr, lr, Q8⟩ ⟨hr, J4⟩ rfl ?_
      refine sg ?_
      refine ⟨_, rfl, ?_⟩
      refine wT [(0, .s (mC p_disks)), (6, .o 79), (7, .o 33), (9, .b 9 0), (10, .s (mU x2)), (13, .b 13 0), (17, .s (mD p_l)), (18, vi (p_l.length : Int)), (19, vi s1.1), (39, .o 36), (40, vi (x4.length : Int)), (41, vi s2.1), (47, vb (x5.What != 1))] [(79, .own 47 6 (mB s2.2)), (33, .own 3 1 (mU s1.2.2)), (9, .box [vi x1.Id, vi x1.Ver, .s (mU x1.Servers)]), (13, .box [vi x5.Id, vi x5.Server, vi x5.What]), (36, .own 68 3 (mE x4))] ⟨lr, lr, lr, lr, lr, Q8⟩ ⟨hr, J4⟩ rfl ?_
      refine cn 47 (x5.What != 1) rfl hv3 (fun hb hv3 => ?_) fun hb hv3 => ?_
      ·refine sg ?_
       obtain ⟨x6, hx6, hv3⟩ := bindS hv3
       refine ⟨_, rfl, _, rfl, ?_⟩
       refine CallOk.call (w_scrub_next hx6) (LeL.refl _) ?_
       refine wT [(0, .s (mC p_disks)), (6, .o 79), (7, .o 33), (9, .b 9 0), (10, .s (mU x2)), (13, .b 13 0), (14, vi x6), (17, .s (mD p_l)), (18, vi (p_l.length : Int)), (19, vi s1.1), (39, .o 36), (40, vi (x4.length : Int)), (41, vi s2.1)] [(79, .own 47 6 (mB s2.2)), (33, .own 3 1 (mU s1.2.2)), (9, .box [vi x1.Id, vi x1.Ver, .s (mU x1.Servers)]), (13, .box [vi x5.Id, vi x5.Server, vi x5.What]), (36, .own 68 3 (mE x4))] ⟨lr, lr, lr, lr, lr, Q8⟩ ⟨hr, J4⟩ rfl ?_
       refine sq ?_
       refine Ok.draw2 (m := 11) (late := [9]) (MD := ⟨[]⟩) (CH := ⟨[]⟩) Tryz.tok Tryz.mixed (by kernel_rfl) ?_
       obtain ⟨x7, hx7, hv3⟩ := bindS hv3
       obtain ⟨x8, hx8, hv3⟩ := bindS hv3
       refine ⟨_, rfl, _, rfl, _, ⟨_, idx_nat hx7, _, idx_row hx7, rfl⟩, _, ⟨_, rfl, rfl⟩, _, rfl, _, ⟨_, rfl, rfl⟩, _, ⟨_, .of_pure (w_chunk_Get hx8) (LeL.refl _), rfl⟩, _, rfl, _, rfl, _, rfl, Q0, ?_⟩
       refine ⟨_, rfl, ⟨⟨_, rfl, rfl⟩, Q0⟩, ?_⟩
       refine wT [(0, .s (mC p_disks)), (6, .o 79), (7, .o 33), (9, .b 9 0), (10, .s (mU x2)), (13, .b 13 0), (14, vi x6), (15, .b 15 0), (17, .s (mD p_l)), (18, vi (p_l.length : Int)), (19, vi s1.1), (39, .o 36), (40, vi (x4.length : Int)), (41, vi s2.1)] [(79, .own 47 6 (mB s2.2)), (33, .own 3 1 (mU s1.2.2)), (9, .box [vi x1.Id, vi x1.Ver, .s (mU x1.Servers)]), (13, .box [vi x5.Id, vi x5.Server, vi x5.What]), (15, .box [vi x8.1.Id, vi x8.1.Ver, .s (mI x8.1.Data), .s (mU x8.1.Sums)]), (36, .own 68 3 (mE x4))] ⟨lr, lr, lr, lr, lr, lr, Q8⟩ ⟨hr, hr, J4⟩ rfl ?_
       refine rg ?_
       obtain ⟨hc2, hv3⟩ := chk_some hv3
       obtain ⟨hc3, hv3⟩ := chk_some hv3
       refine ⟨_, rfl, _, rfl, _, rfl, _, List.length_map _, fun _ => ⟨_, rfl, _, List.length_map _, fun _ => (Or.inl ⟨hc2, Or.inl ⟨rowsLen_map (f := c_api_Job) (n := 6) (fun _ => rfl) ([(⟨x1.Id, x1.Ver, x6, x5.Server, (x2.length : Int), ((x8.1.Data.length : Int) + 1)⟩ : api_Job)]), app_b2 (f := c_api_Job) (l := s2.2) (l' := [(⟨x1.Id, x1.Ver, x6, x5.Server, (x2.length : Int), ((x8.1.Data.length : Int) + 1)⟩ : api_Job)]) hc3, _, (List.map_append (f := c_api_Job) (l₁ := s2.2) (l₂ := [(⟨x1.Id, x1.Ver, x6, x5.Server, (x2.length : Int), ((x8.1.Data.length : Int) + 1)⟩ : api_Job)])).symm, ?_⟩⟩)⟩⟩
       cases hv3
       exact wt ⟨lr, lr, lr, Q8⟩ J4 rfl
      refine sk ?_
      cases hv3
      exact wt ⟨lr, lr, lr, Q8⟩ J4 rfl
     refine rg ?_
     obtain ⟨hc4, hB2⟩ := chk_some hB2
     refine (Or.inl ⟨hc4, ?_⟩)
     exact ⟨_, sj hB2, wt ⟨lr, lr, lr, Q8⟩ J4 rfl⟩
    refine xt ?_
    have hB2 := out_ret hB2 hy2
    cases hB2
    exact wt Q6 J2 rfl
   refine rg ?_
   obtain ⟨hc5, hB1⟩ := chk_some hB1
   refine (Or.inl ⟨hc5, ?_⟩)
   exact ⟨_, sj hB1, wt Q6 J2 rfl⟩
  refine xt ?_
  have hB1 := out_ret hB1 hy1
  cases hB1
  exact wt Q2 J2 rfl
 refine sg ?_
 refine wT [(4, .o 79), (5, .o 33)] [(79, .own 47 6 (mB v1.1)), (33, .own 3 1 (mU v1.2))] Q2 J2 rfl ?_
 refine rt ?_
 cases h
 exact (Fz.t (.cons (Fz.o rfl) (.cons (Fz.o rfl) .nil)))
theorem w_scrub_there {p_disks} {p_s} {r} (h : scrub_there p_disks p_s = some r) : Pure Tryz.prog 53 [(.s (mC p_disks)), (vi p_s)] (vb r) := by
 refine po Tryz.tok 13 Tryz.func53 (by kernel_rfl) rfl rfl rfl ?_
 unfold scrub_there at h
 refine wE [(0, .s (mC p_disks)), (1, vi p_s)] Q2 ?_
 refine sg ?_
 refine wE [(0, .s (mC p_disks)), (1, vi p_s)] Q2 ?_
 obtain ⟨v1, hv1, h⟩ := bindS h
 refine Ok.seqw ⟨Cat.tab [(4, vb v1)], []⟩ ?_ ?_
 ·refine rg ?_
  obtain ⟨c1, hg1, hv1⟩ := bindS hv1
  refine Br.ite hg1 (fun hb hg1 => ?_) fun hb hg1 => ?_
  ·refine ⟨_, List.length_map _, fun _ => ?_⟩
   cases hg1
   cases hv1
   exact wt Q1 Q0 rfl
  cases hg1
  cases hv1
  exact wt Q1 Q0 rfl
 refine rt ?_
 cases h
 exact Fz.v
theorem wo_slices_Clone_api_Page_api_Page {p_s} {r} (h : slices_Clone_api_Page_api_Page p_s = some r) : POwn Tryz.prog 133 [(.s (mA p_s))] 85 2 (mA r) := by
 refine pw Tryz.tok 8 Tryz.func133 (by kernel_rfl) rfl rfl rfl ?_
 unfold slices_Clone_api_Page_api_Page at h
 refine wE [(0, .s (mA p_s))] Q1 ?_
 refine sg ?_
 refine wE [(0, .s (mA p_s))] Q1 ?_
 refine sq ?_
 refine sg ?_
 intro b1 hb1
 have h := anyOf_some h b1 (fun e => List.map_eq_nil_iff.1 (hb1 e))
 refine wE [(0, .s (mA p_s)), (4, vb b1)] Q2 ?_
 refine cn 4 (b1) rfl h (fun hb h => ?_) fun hb h => ?_
 ·refine sg ?_
  refine wE [(2, .v (.slice none 0 0))] Q1 ?_
  refine rt ?_
  cases h
  exact (.inl ⟨rfl, rfl⟩)
 refine sk ?_
 refine sg ?_
 obtain ⟨hc1, h⟩ := chk_some h
 refine Or.inr ⟨rowsLen_map (f := c_api_Page) (n := 2) (fun _ => rfl) p_s, app_b2 (f := c_api_Page) (l := ([] : List api_Page)) (l' := p_s) hc1, _, (List.map_append (f := c_api_Page) (l₁ := ([] : List api_Page)) (l₂ := p_s)).symm, ?_⟩
 refine wT [(2, .o 5)] [(5, .own 85 2 (mA (([] : List api_Page) ++ p_s)))] Q1 J1 rfl ?_
 refine rt ?_
 cases h
 exact (.inr ⟨_, rfl, rfl⟩)
theorem w_disk_Write {p_d} {p_at} {p_data} {r} (h : disk_Write p_d p_at p_data = some r) : Pure Tryz.prog 86 [(.a [(.s (mA p_d.Synced)), (.s (mA p_d.Loose)), (vb p_d.Down)]), (vi p_at), (.s (mI p_data))] (.t [(.a [(.s (mA r.1.Synced)), (.s (mA r.1.Loose)), (vb r.1.Down)]), (vi r.2)]) := by
 refine po Tryz.tok 29 Tryz.func86 (by kernel_rfl) rfl rfl rfl ?_
 unfold disk_Write at h
 refine wE [(0, .a [.s (mA p_d.Synced), .s (mA p_d.Loose), vb p_d.Down]), (1, vi p_at), (2, .s (mI p_data))] Q3 ?_
 refine sg ?_
 refine wT [(1, vi p_at), (2, .s (mI p_data)), (3, .b 3 0), (6, .b 6 0)] [(3, .box [.s (mA p_d.Synced), .s (mA p_d.Loose), vb p_d.Down]), (6, .box [.v (.slice none 0 0), .v (.slice none 0 0), vb false])] Q4 J2 rfl ?_
 refine sq ?_
 refine bl ?_
 refine sg ?_
 refine ⟨_, rfl, ?_⟩
 refine wT [(1, vi p_at), (2, .s (mI p_data)), (3, .b 3 0), (6, .b 6 0), (8, vb p_d.Down)] [(3, .box [.s (mA p_d.Synced), .s (mA p_d.Loose), vb p_d.Down]), (6, .box [.v (.slice none 0 0), .v (.slice none 0 0), vb false])] Q5 J2 rfl ?_
 refine cn 8 (p_d.Down) rfl h (fun hb h => ?_) fun hb h => ?_
 ·refine sg ?_
  refine ⟨_, rfl, _, rfl, ?_⟩
  refine wT [(6, .b 6 0), (7, vi (40))] [(6, .box [.s (mA p_d.Synced), .s (mA p_d.Loose), vb p_d.Down])] Q2 J1 rfl ?_
  refine rt ?_
  cases h
  exact ⟨_, rfl, (Fz.t (.cons (Fz.imm rfl) (.cons Fz.v .nil)))⟩
 refine sg ?_
 obtain ⟨x1, hx1, h⟩ := bindS h
 refine CallOk.call (w_disk_may hx1) (LeL.refl _) ?_
 refine wT [(1, vi p_at), (2, .s (mI p_data)), (3, .b 3 0), (6, .b 6 0), (12, vb (!x1))] [(3, .box [.s (mA p_d.Synced), .s (mA p_d.Loose), vb p_d.Down]), (6, .box [.v (.slice none 0 0), .v (.slice none 0 0), vb false])] Q5 J2 rfl ?_
 refine cn 12 (!x1) rfl h (fun hb h => ?_) fun hb h => ?_
 ·refine sg ?_
  refine ⟨_, rfl, _, rfl, ?_⟩
  refine wT [(6, .b 6 0), (7, vi (1))] [(6, .box [.s (mA p_d.Synced), .s (mA p_d.Loose), vb p_d.Down])] Q2 J1 rfl ?_
  refine rt ?_
  cases h
  exact ⟨_, rfl, (Fz.t (.cons (Fz.imm rfl) (.cons Fz.v .nil)))⟩
 refine sk ?_
 refine sg ?_
 obtain ⟨x2, hx2, h⟩ := bindS h
 refine ⟨_, rfl, ?_⟩
 refine CallOk.own (D := 20) (wo_slices_Clone_api_Page_api_Page hx2) (LeL.refl _) rfl ?_
 obtain ⟨x3, hx3, h⟩ := bindS h
 refine CallOk.call (w_bytes_Clone hx3) (LeL.refl _) ?_
 obtain ⟨hc1, h⟩ := chk_some h
 refine Or.inl ⟨rowsLen_map (f := c_api_Page) (n := 2) (fun _ => rfl) ([(⟨p_at, x3⟩ : api_Page)]), app_b2 (f := c_api_Page) (l := x2) (l' := [(⟨p_at, x3⟩ : api_Page)]) hc1, _, (List.map_append (f := c_api_Page) (l₁ := x2) (l₂ := [(⟨p_at, x3⟩ : api_Page)])).symm, _, rfl, ?_⟩
 refine wT [(3, .b 3 0), (6, .b 6 0)] [(3, .box [.s (mA p_d.Synced), .o 20, vb p_d.Down]), (20, .own 85 2 (mA (x2 ++ [(⟨p_at, x3⟩ : api_Page)]))), (6, .box [.v (.slice none 0 0), .v (.slice none 0 0), vb false])] Q2 J3 rfl ?_
 refine sg ?_
 refine ⟨_, rfl, _, rfl, ?_⟩
 refine wT [(6, .b 6 0), (7, vi (0))] [(6, .box [.s (mA p_d.Synced), .o 20, vb p_d.Down]), (20, .own 85 2 (mA (x2 ++ [(⟨p_at, x3⟩ : api_Page)])))] Q2 J2 rfl ?_
 refine rt ?_
 cases h
 exact ⟨_, rfl, (Fz.t (.cons (Fz.a (.cons Fz.s (.cons (Fz.o rfl) (.cons Fz.v .nil)))) (.cons Fz.v .nil)))⟩
theorem w_chunk_Put {p_d} {p_c} {r} (h : chunk_Put p_d p_c = some r) : Pure Tryz.prog 56 [(.a [(.s (mA p_d.Synced)), (.s (mA p_d.Loose)), (vb p_d.Down)]), (.a [(vi p_c.Id), (vi p_c.Ver), (.s (mI p_c.Data)), (.s (mU p_c.Sums))])] (.t [(.a [(.s (mA r.1.Synced)), (.s (mA r.1.Loose)), (vb r.1.Down)]), (vi r.2)]) := by
 refine po Tryz.tok 18 Tryz.func56 (by kernel_rfl) rfl rfl rfl ?_
 unfold chunk_Put at h
 refine wE [(0, .a [.s (mA p_d.Synced), .s (mA p_d.Loose), vb p_d.Down]), (1, .a [vi p_c.Id, vi p_c.Ver, .s (mI p_c.Data), .s (mU p_c.Sums)])] Q2 ?_
 refine sg ?_
 refine wT [(2, .b 2 0), (3, .b 3 0), (4, .b 4 0)] [(2, .box [.s (mA p_d.Synced), .s (mA p_d.Loose), vb p_d.Down]), (3, .box [vi p_c.Id, vi p_c.Ver, .s (mI p_c.Data), .s (mU p_c.Sums)]), (4, .box [.v (.slice none 0 0), .v (.slice none 0 0), vb false])] Q3 J3 rfl ?_
 refine sq ?_
 refine sg ?_
 obtain ⟨x1, hx1, h⟩ := bindS h
 refine ⟨_, rfl, ?_⟩
 refine CallOk.call (w_chunk_may hx1) (LeL.refl _) ?_
 refine wT [(2, .b 2 0), (3, .b 3 0), (4, .b 4 0), (8, vb (!x1))] [(2, .box [.s (mA p_d.Synced), .s (mA p_d.Loose), vb p_d.Down]), (3, .box [vi p_c.Id, vi p_c.Ver, .s (mI p_c.Data), .s (mU p_c.Sums)]), (4, .box [.v (.slice none 0 0), .v (.slice none 0 0), vb false])] Q4 J3 rfl ?_
 refine cn 8 (!x1) rfl h (fun hb h => ?_) fun hb h => ?_
 ·refine sg ?_
  refine ⟨_, rfl, _, rfl, ?_⟩
  refine wT [(4, .b 4 0), (5, vi (1))] [(4, .box [.s (mA p_d.Synced), .s (mA p_d.Loose), vb p_d.Down])] Q2 J1 rfl ?_
  refine rt ?_
  cases h
  exact ⟨_, rfl, (Fz.t (.cons (Fz.imm rfl) (.cons Fz.v .nil)))⟩
 refine sk ?_
 refine sq ?_
 refine Ok.draw (m := 8) (MD := ⟨[]⟩) (CH := ⟨[]⟩) Tryz.tok Tryz.mixed (by kernel_rfl) ?_
 obtain ⟨x2, hx2, h⟩ := bindS h
 obtain ⟨x3, hx3, h⟩ := bindS h
 refine ⟨_, ⟨_, rfl, rfl⟩, _, rfl, _, ⟨_, rfl, rfl⟩, _, ⟨_, rfl, rfl⟩, _, ⟨_, .of_pure (w_chunk_page hx2) (LeL.refl _), rfl⟩, _, ⟨_, .of_pure (w_disk_Write hx3) (LeL.refl _), rfl⟩, _, rfl, _, rfl, Q0, _, rfl, ?_⟩
 refine wT [(4, .b 4 0), (5, vi x3.2)] [(4, .box [.s (mA x3.1.Synced), .s (mA x3.1.Loose), vb x3.1.Down])] Q2 J1 rfl ?_
 refine rt ?_
 cases h
 exact ⟨_, rfl, (Fz.t (.cons (Fz.imm rfl) (.cons Fz.v .nil)))⟩
theorem wo_disk_laid [Off] {p_l} {p_over} {r} (h : disk_laid p_l p_over = some r) : POwn Tryz.prog 131 [(.s (mA p_l)), (.s (mA p_over))] 85 2 (mA r) := by
 refine pw Tryz.tok 42 Tryz.func131 (by kernel_rfl) rfl rfl rfl ?_
 unfold disk_laid at h
 refine wE [(0, .s (mA p_l)), (1, .s (mA p_over))] Q2 ?_
 refine sg ?_
 refine wE [(0, .s (mA p_l)), (1, .s (mA p_over))] Q2 ?_
 refine sg ?_
 refine wT [(0, .s (mA p_l)), (1, .s (mA p_over)), (5, .m 11)] [(11, .mp true (List.map (fun p => (p.1, c_api_Page p.2)) ([] : List (Int × api_Page))))] Q3 ⟨⟨_, rfl, .refl _⟩, Q0⟩ rfl ?_
 obtain ⟨v1, hv1, h⟩ := bindS h
 refine Ok.seqw ⟨Cat.tab [(5, .m 11)], [(11, .mp true (List.map (fun p => (p.1, c_api_Page p.2)) v1))]⟩ ?_ ?_
 ·refine sg ?_
  obtain ⟨x1, hx1, hv1⟩ := bindS hv1
  refine Or.inl ?_
  refine CallOk.call (w_slices_Concat_api_Page_api_Page hx1) (LeL.refl _) ?_
  refine ⟨_, List.length_map _, fun _ => ?_⟩
  refine wT [(5, .m 11), (15, .s (mA x1)), (16, vi (x1.length : Int)), (17, vi (0))] [(11, .mp true (List.map (fun p => (p.1, c_api_Page p.2)) ([] : List (Int × api_Page))))] Q4 ⟨⟨_, rfl, .refl _⟩, Q0⟩ rfl ?_
  refine bl ?_
  refine Ok.loop (fun (s1 : Int × (List (Int × api_Page))) => ⟨Cat.tab [(5, .m 11), (15, .s (mA x1)), (16, vi (x1.length : Int)), (17, vi s1.1)], [(11, .mp true (List.map (fun p => (p.1, c_api_Page p.2)) s1.2))]⟩) (disk_laid_B1 x1) (s0 := (0, ([] : List (Int × api_Page)))) hv1 (wt Q4 ⟨⟨_, rfl, .refl _⟩, Q0⟩ rfl) ?_
  intro s1 y1 hB1 hy1
  unfold disk_laid_B1 at hB1
  refine sg ?_
  refine wT [(5, .m 11), (15, .s (mA x1)), (16, vi (x1.length : Int)), (17, vi s1.1), (18, vb (decide (s1.1 < (x1.length : Int))))] [(11, .mp true (List.map (fun p => (p.1, c_api_Page p.2)) s1.2))] Q5 ⟨⟨_, rfl, .refl _⟩, Q0⟩ rfl ?_
  refine sq ?_
  refine cn 18 (decide (s1.1 < (x1.length : Int))) rfl hB1 (fun hb hB1 => ?_) fun hb hB1 => ?_
  ·refine sk ?_
   refine sq ?_
   refine bl ?_
   refine sg ?_
   obtain ⟨x2, hx2, hB1⟩ := bindS hB1
   refine ⟨_, idx_nat hx2, _, idx_row hx2, _, rfl, _, rfl, ?_⟩
   refine wT [(5, .m 11), (7, .b 7 0), (15, .s (mA x1)), (16, vi (x1.length : Int)), (17, vi s1.1)] [(11, .mp true (List.map (fun p => (p.1, c_api_Page p.2)) s1.2)), (7, .box [vi x2.At, .s (mI x2.Data)])] Q5 ⟨⟨_, rfl, .refl _⟩, ⟨_, rfl, .refl _⟩, Q0⟩ rfl ?_
   refine rg ?_
   obtain ⟨hc1, hB1⟩ := chk_some hB1
   refine ⟨_, rfl, _, rfl, hc1.1, Nat.lt_of_le_of_lt (Nat.le_of_eq (List.length_map _)) hc1.2, _, mset_map c_api_Page x2.At x2 s1.2, ?_⟩
   refine wT [(5, .m 11), (15, .s (mA x1)), (16, vi (x1.length : Int)), (17, vi s1.1)] [(11, .mp true (List.map (fun p => (p.1, c_api_Page p.2)) (mset x2.At x2 s1.2)))] Q4 ⟨⟨_, rfl, .refl _⟩, Q0⟩ rfl ?_
   refine rg ?_
   obtain ⟨hc2, hB1⟩ := chk_some hB1
   refine (Or.inl ⟨hc2, ?_⟩)
   exact ⟨_, sj hB1, wt Q4 J1 rfl⟩
  refine xt ?_
  have hB1 := out_ret hB1 hy1
  cases hB1
  exact wt Q1 J1 rfl
 refine sg ?_
 refine wT [(5, .m 11), (8, .v (.slice none 0 0))] [(11, .mp true (List.map (fun p => (p.1, c_api_Page p.2)) v1))] Q2 ⟨⟨_, rfl, .refl _⟩, Q0⟩ rfl ?_
 obtain ⟨v2, hv2, h⟩ := bindS h
 refine Ok.seqw ⟨Cat.tab [(8, .o 39)], [(39, .own 85 2 (mA v2))]⟩ ?_ ?_
 ·refine sg ?_
  refine CallOk.keys (D := 27) Tryz.keysS163 Tryz.enters163 rfl rfl rfl ?_
  obtain ⟨hc3, hv2⟩ := chk_some hv2
  obtain ⟨x3, hx3, hv2⟩ := bindS hv2
  refine CallOk.sortedKeys (D := 27) (D2 := 28) Tryz.sortedS162_172 Tryz.enters162 rfl rfl (klen hc3) (ksort hx3) rfl ?_
  refine ⟨_, List.length_map _, fun _ => ?_⟩
  refine wT [(5, .m 11), (8, .v (.slice none 0 0)), (28, .o 28), (29, vi (x3.length : Int)), (30, vi (0))] [(11, .mp true (List.map (fun p => (p.1, c_api_Page p.2)) v1)), (28, .own 3 1 (mU x3))] Q5 ⟨⟨_, rfl, .refl _⟩, ⟨_, rfl, .refl _⟩, Q0⟩ rfl ?_
  refine bl ?_
  refine Ok.loop (fun (s2 : Int × (List api_Page)) => ⟨Cat.tab [(5, .m 11), (8, .o 39), (28, .o 28), (29, vi (x3.length : Int)), (30, vi s2.1)], [(11, .mp true (List.map (fun p => (p.1, c_api_Page p.2)) v1)), (39, .own 85 2 (mA s2.2)), (28, .own 3 1 (mU x3))]⟩) (disk_laid_B2 x3 v1) (s0 := (0, [])) hv2 ((Wk.own0 (t := 8) (id := 39) (E := 85) (K := 2) rfl rfl).trans (wt Q5 ⟨⟨_, rfl, .refl _⟩, ⟨_, rfl, .refl _⟩, ⟨_, rfl, .refl _⟩, Q0⟩ rfl)) ?_
  intro s2 y2 hB2 hy2
  unfold disk_laid_B2 at hB2
  refine sg ?_
  refine wT [(5, .m 11), (8, .o 39), (28, .o 28), (29, vi (x3.length : Int)), (30, vi s2.1), (31, vb (decide (s2.1 < (x3.length : Int))))] [(11, .mp true (List.map (fun p => (p.1, c_api_Page p.2)) v1)), (39, .own 85 2 (mA s2.2)), (28, .own 3 1 (mU x3))] Q6 ⟨⟨_, rfl, .refl _⟩, ⟨_, rfl, .refl _⟩, ⟨_, rfl, .refl _⟩, Q0⟩ rfl ?_
  refine sq ?_
  refine cn 31 (decide (s2.1 < (x3.length : Int))) rfl hB2 (fun hb hB2 => ?_) fun hb hB2 => ?_
  ·refine sk ?_
   refine sq ?_
   refine bl ?_
   refine sg ?_
   obtain ⟨x4, hx4, hB2⟩ := bindS hB2
   refine ⟨_, idx_nat hx4, idx_ltm hx4, _, idx_row hx4, rfl, _, rfl, ?_⟩
   refine wT [(5, .m 11), (8, .o 39), (10, vi x4), (28, .o 28), (29, vi (x3.length : Int)), (30, vi s2.1)] [(11, .mp true (List.map (fun p => (p.1, c_api_Page p.2)) v1)), (39, .own 85 2 (mA s2.2)), (28, .own 3 1 (mU x3))] Q6 ⟨⟨_, rfl, .refl _⟩, ⟨_, rfl, .refl _⟩, ⟨_, rfl, .refl _⟩, Q0⟩ rfl ?_
   refine rg ?_
   obtain ⟨x5, hx5, hB2⟩ := bindS hB2
   obtain ⟨hc4, hB2⟩ := chk_some hB2
   refine ⟨_, lk_val c_api_Page (z := ((⟨0, []⟩ : api_Page) : api_Page)) hx5, Or.inl ⟨rowsLen_map (f := c_api_Page) (n := 2) (fun _ => rfl) ([x5]), app_b2 (f := c_api_Page) (l := s2.2) (l' := [x5]) hc4, _, (List.map_append (f := c_api_Page) (l₁ := s2.2) (l₂ := [x5])).symm, ?_⟩⟩
   refine wT [(5, .m 11), (8, .o 39), (28, .o 28), (29, vi (x3.length : Int)), (30, vi s2.1)] [(11, .mp true (List.map (fun p => (p.1, c_api_Page p.2)) v1)), (39, .own 85 2 (mA (s2.2 ++ [x5]))), (28, .own 3 1 (mU x3))] Q5 ⟨⟨_, rfl, .refl _⟩, ⟨_, rfl, .refl _⟩, ⟨_, rfl, .refl _⟩, Q0⟩ rfl ?_
   refine rg ?_
   obtain ⟨hc5, hB2⟩ := chk_some hB2
   refine (Or.inl ⟨hc5, ?_⟩)
   exact ⟨_, sj hB2, wt Q5 J3 rfl⟩
  refine xt ?_
  have hB2 := out_ret hB2 hy2
  cases hB2
  exact wt Q1 J1 rfl
 refine sg ?_
 refine wT [(4, .o 39)] [(39, .own 85 2 (mA v2))] Q1 J1 rfl ?_
 refine rt ?_
 cases h
 exact (.inr ⟨_, rfl, rfl⟩)
theorem w_disk_laid [Off] {p_l} {p_over} {r} (h : disk_laid p_l p_over = some r) : Pure Tryz.prog 131 [(.s (mA p_l)), (.s (mA p_over))] (.s (mA r)) := (wo_disk_laid h).pure
theorem w_disk_Sync [Off] {p_d} {r} (h : disk_Sync p_d = some r) : Pure Tryz.prog 84 [(.a [(.s (mA p_d.Synced)), (.s (mA p_d.Loose)), (vb p_d.Down)])] (.t [(.a [(.s (mA r.1.Synced)), (.s (mA r.1.Loose)), (vb r.1.Down)]), (vi r.2)]) := by
 refine po Tryz.tok 13 Tryz.func84 (by kernel_rfl) rfl rfl rfl ?_
 unfold disk_Sync at h
 refine wE [(0, .a [.s (mA p_d.Synced), .s (mA p_d.Loose), vb p_d.Down])] Q1 ?_
 refine sg ?_
 refine wT [(1, .b 1 0), (2, .b 2 0)] [(1, .box [.s (mA p_d.Synced), .s (mA p_d.Loose), vb p_d.Down]), (2, .box [.v (.slice none 0 0), .v (.slice none 0 0), vb false])] Q2 J2 rfl ?_
 refine sq ?_
 refine sg ?_
 refine ⟨_, rfl, ?_⟩
 refine wT [(1, .b 1 0), (2, .b 2 0), (5, vb p_d.Down)] [(1, .box [.s (mA p_d.Synced), .s (mA p_d.Loose), vb p_d.Down]), (2, .box [.v (.slice none 0 0), .v (.slice none 0 0), vb false])] Q3 J2 rfl ?_
 refine cn 5 (p_d.Down) rfl h (fun hb h => ?_) fun hb h => ?_
 ·refine sg ?_
  refine ⟨_, rfl, _, rfl, ?_⟩
  refine wT [(2, .b 2 0), (3, vi (40))] [(2, .box [.s (mA p_d.Synced), .s (mA p_d.Loose), vb p_d.Down])] Q2 J1 rfl ?_
  refine rt ?_
  cases h
  exact ⟨_, rfl, (Fz.t (.cons (Fz.imm rfl) (.cons Fz.v .nil)))⟩
 refine sk ?_
 refine sg ?_
 obtain ⟨x1, hx1, h⟩ := bindS h
 refine ⟨_, rfl, _, rfl, ?_⟩
 refine CallOk.call (w_disk_laid hx1) (LeL.refl _) ?_
 refine ⟨_, rfl, ?_⟩
 refine wT [(2, .b 2 0), (3, vi (0))] [(2, .box [.s (mA x1), .v (.slice none 0 0), vb false])] Q2 J1 rfl ?_
 refine rt ?_
 cases h
 exact ⟨_, rfl, (Fz.t (.cons (Fz.a (.cons Fz.s (.cons Fz.nil (.cons Fz.v .nil)))) (.cons Fz.v .nil)))⟩
theorem wo_slices_Clone_api_Disk_api_Disk {p_s} {r} (h : slices_Clone_api_Disk_api_Disk p_s = some r) : POwn Tryz.prog 85 [(.s (mC p_s))] 55 3 (mC r) := by
 refine pw Tryz.tok 8 Tryz.func85 (by kernel_rfl) rfl rfl rfl ?_
 unfold slices_Clone_api_Disk_api_Disk at h
 refine wE [(0, .s (mC p_s))] Q1 ?_
 refine sg ?_
 refine wE [(0, .s (mC p_s))] Q1 ?_
 refine sq ?_
 refine sg ?_
 intro b1 hb1
 have h := anyOf_some h b1 (fun e => List.map_eq_nil_iff.1 (hb1 e))
 refine wE [(0, .s (mC p_s)), (4, vb b1)] Q2 ?_
 refine cn 4 (b1) rfl h (fun hb h => ?_) fun hb h => ?_
 ·refine sg ?_
  refine wE [(2, .v (.slice none 0 0))] Q1 ?_
  refine rt ?_
  cases h
  exact (.inl ⟨rfl, rfl⟩)
 refine sk ?_
 refine sg ?_
 obtain ⟨hc1, h⟩ := chk_some h
 refine Or.inr ⟨rowsLen_map (f := c_api_Disk) (n := 3) (fun _ => rfl) p_s, app_b2 (f := c_api_Disk) (l := ([] : List api_Disk)) (l' := p_s) hc1, _, (List.map_append (f := c_api_Disk) (l₁ := ([] : List api_Disk)) (l₂ := p_s)).symm, ?_⟩
 refine wT [(2, .o 5)] [(5, .own 55 3 (mC (([] : List api_Disk) ++ p_s)))] Q1 J1 rfl ?_
 refine rt ?_
 cases h
 exact (.inr ⟨_, rfl, rfl⟩)
theorem wg_scrub_Copy_1_3 {p_d} {p_b0} {r} (h : scrub_Copy_1_3 p_d p_b0 = some r) : CallOk Tryz.prog 55 [(.a [(.s (mA p_d.Synced)), (.s (mA p_d.Loose)), (vb p_d.Down)]), (.b 1000 0)] ⟨noSlots, [(1000, .box [(vi p_b0.Id), (vi p_b0.Ver), (.s (mI p_b0.Data)), (.s (mU p_b0.Sums))])]⟩ fun x s => x = (.t [(.a [(.s (mA r.1)), (.s (mA r.2.1)), (vb r.2.2.1)]), (vi r.2.2.2)]) ∧ s.H = [(1000, .box [(vi p_b0.Id), (vi p_b0.Ver), (.s (mI p_b0.Data)), (.s (mU p_b0.Sums))])] := by
 refine pgen_of_ok (n := 10) (c := Tryz.f55.body.getD .skip) Tryz.tok Tryz.func55 (by kernel_rfl) rfl rfl (Nat.le_of_ble_eq_true rfl) ?_
 unfold scrub_Copy_1_3 at h
 refine wT [(0, .a [.s (mA p_d.Synced), .s (mA p_d.Loose), vb p_d.Down]), (1, .b 1000 0)] [(1000, .box [vi p_b0.Id, vi p_b0.Ver, .s (mI p_b0.Data), .s (mU p_b0.Sums)])] Q2 J1 rfl ?_
 refine sg ?_
 refine wT [(1, .b 1000 0), (2, .b 2 0), (3, .b 3 0)] [(1000, .box [vi p_b0.Id, vi p_b0.Ver, .s (mI p_b0.Data), .s (mU p_b0.Sums)]), (2, .box [.s (mA p_d.Synced), .s (mA p_d.Loose), vb p_d.Down]), (3, .box [.v (.slice none 0 0), .v (.slice none 0 0), vb false])] Q3 J3 rfl ?_
 refine sg ?_
 obtain ⟨x1, hx1, h⟩ := bindS h
 refine ⟨_, rfl, _, rfl, ?_⟩
 refine CallOk.call (w_chunk_Put hx1) (LeL.refl _) ?_
 refine ⟨_, rfl, ?_⟩
 refine wT [(3, .b 3 0), (4, vi x1.2)] [(3, .box [.s (mA x1.1.Synced), .s (mA x1.1.Loose), vb x1.1.Down]), (1000, .box [vi p_b0.Id, vi p_b0.Ver, .s (mI p_b0.Data), .s (mU p_b0.Sums)])] Q2 J2 rfl ?_
 refine rt ?_
 cases h
 exact ⟨_, rfl, wt Q1 J1 rfl⟩
theorem wg_scrub_turn__scrub_Copy_1_2 [Off] {p_disks} {p_s} {p_b0} {r} (h : scrub_turn__scrub_Copy_1_2 p_disks p_s p_b0 = some r) : CallOk Tryz.prog 54 [(.s (mC p_disks)), (vi p_s), (.c (.func 55) [] [(.b 1000 0)])] ⟨noSlots, [(1000, .box [(vi p_b0.Id), (vi p_b0.Ver), (.s (mI p_b0.Data)), (.s (mU p_b0.Sums))])]⟩ fun x s => x = (.t [(.s (mC r.1)), (vi r.2)]) ∧ s.H = [(1000, .box [(vi p_b0.Id), (vi p_b0.Ver), (.s (mI p_b0.Data)), (.s (mU p_b0.Sums))])] := by
 refine pgen_of_ok (n := 38) (c := Tryz.f54.body.getD .skip) Tryz.tok Tryz.func54 (by kernel_rfl) rfl rfl (Nat.le_of_ble_eq_true rfl) ?_
 unfold scrub_turn__scrub_Copy_1_2 at h
 refine wT [(0, .s (mC p_disks)), (1, vi p_s), (2, .c (.func 55) [] [.b 1000 0])] [(1000, .box [vi p_b0.Id, vi p_b0.Ver, .s (mI p_b0.Data), .s (mU p_b0.Sums)])] Q3 J1 rfl ?_
 refine sg ?_
 refine wT [(0, .s (mC p_disks)), (1, vi p_s), (2, .c (.func 55) [] [.b 1000 0])] [(1000, .box [vi p_b0.Id, vi p_b0.Ver, .s (mI p_b0.Data), .s (mU p_b0.Sums)])] Q3 J1 rfl ?_
 refine sg ?_
 obtain ⟨x1, hx1, h⟩ := bindS h
 obtain ⟨x3, hx3, h⟩ := bindS h
 refine ⟨_, idx_nat hx1, _, idx_row hx1, _, rfl, ?_⟩
 refine CallOk.gen (m := [(1000, 1000)]) (n := []) (wg_scrub_Copy_1_3 hx3) (.cons (Ln.imm rfl) (.cons (Ln.b rfl) (.nil))) ⟨⟨1000, _, rfl, rfl, .box (.cons (Ln.imm rfl) (.cons (Ln.imm rfl) (.cons (Ln.imm rfl) (.cons (Ln.imm rfl) (.nil)))))⟩, Q0⟩ rfl rfl rfl ?_
 refine ⟨_, rfl, ?_⟩
 refine wT [(0, .s (mC p_disks)), (1, vi p_s), (8, .b 8 0), (9, vi x3.2.2.2)] [(8, .box [.s (mA x3.1), .s (mA x3.2.1), vb x3.2.2.1]), (1000, .box [vi p_b0.Id, vi p_b0.Ver, .s (mI p_b0.Data), .s (mU p_b0.Sums)])] Q4 J2 rfl ?_
 obtain ⟨v1, hv1, h⟩ := bindS h
 refine Ok.seqw ⟨Cat.tab [(0, .s (mC p_disks)), (1, vi p_s), (8, .b 8 0), (9, vi v1.1)], [(8, .box [.s (mA v1.2.1), .s (mA v1.2.2.1), vb v1.2.2.2]), (1000, .box [vi p_b0.Id, vi p_b0.Ver, .s (mI p_b0.Data), .s (mU p_b0.Sums)])]⟩ ?_ ?_
 ·refine sg ?_
  refine wT [(0, .s (mC p_disks)), (1, vi p_s), (8, .b 8 0), (9, vi x3.2.2.2), (21, vb (x3.2.2.2 == 0))] [(8, .box [.s (mA x3.1), .s (mA x3.2.1), vb x3.2.2.1]), (1000, .box [vi p_b0.Id, vi p_b0.Ver, .s (mI p_b0.Data), .s (mU p_b0.Sums)])] Q5 J2 rfl ?_
  refine cn 21 (x3.2.2.2 == 0) rfl hv1 (fun hb hv1 => ?_) fun hb hv1 => ?_
  ·refine rg ?_
   obtain ⟨x4, hx4, hv1⟩ := bindS hv1
   refine ⟨_, rfl, ?_⟩
   refine CallOk.call (w_disk_Sync hx4) (LeL.refl _) ?_
   refine ⟨_, rfl, ?_⟩
   cases hv1
   exact wt Q4 J2 rfl
  refine sk ?_
  cases hv1
  exact wt Q4 J2 rfl
 refine sq ?_
 refine sg ?_
 refine wT [(0, .s (mC p_disks)), (1, vi p_s), (8, .b 8 0), (9, vi v1.1), (28, vb (v1.1 != 0))] [(8, .box [.s (mA v1.2.1), .s (mA v1.2.2.1), vb v1.2.2.2]), (1000, .box [vi p_b0.Id, vi p_b0.Ver, .s (mI p_b0.Data), .s (mU p_b0.Sums)])] Q5 J2 rfl ?_
 refine cn 28 (v1.1 != 0) rfl h (fun hb h => ?_) fun hb h => ?_
 ·refine sg ?_
  refine wT [(6, .s (mC p_disks)), (7, vi v1.1)] [(1000, .box [vi p_b0.Id, vi p_b0.Ver, .s (mI p_b0.Data), .s (mU p_b0.Sums)])] Q2 J1 rfl ?_
  refine rt ?_
  cases h
  exact wt Q1 J1 rfl
 refine sk ?_
 refine sg ?_
 obtain ⟨x5, hx5, h⟩ := bindS h
 refine CallOk.own (D := 32) (wo_slices_Clone_api_Disk_api_Disk hx5) (LeL.refl _) rfl ?_
 refine wT [(1, vi p_s), (8, .b 8 0), (10, .o 32)] [(8, .box [.s (mA v1.2.1), .s (mA v1.2.2.1), vb v1.2.2.2]), (32, .own 55 3 (mC x5)), (1000, .box [vi p_b0.Id, vi p_b0.Ver, .s (mI p_b0.Data), .s (mU p_b0.Sums)])] Q3 J3 rfl ?_
 refine sg ?_
 obtain ⟨x6, hx6, h⟩ := bindS h
 refine ⟨_, rfl, _, idx_nat hx6, idx_ltm hx6, _, idx_row hx6, rfl, _, rfl, _, set_row (f := c_api_Disk) (x := (⟨v1.2.1, v1.2.2.1, v1.2.2.2⟩ : api_Disk)), ?_⟩
 refine wT [(10, .o 32)] [(32, .own 55 3 (mC (x5.set p_s.toNat (⟨v1.2.1, v1.2.2.1, v1.2.2.2⟩ : api_Disk)))), (1000, .box [vi p_b0.Id, vi p_b0.Ver, .s (mI p_b0.Data), .s (mU p_b0.Sums)])] Q1 J2 rfl ?_
 refine sg ?_
 refine wT [(6, .o 32), (7, vi (0))] [(32, .own 55 3 (mC (x5.set p_s.toNat (⟨v1.2.1, v1.2.2.1, v1.2.2.2⟩ : api_Disk)))), (1000, .box [vi p_b0.Id, vi p_b0.Ver, .s (mI p_b0.Data), .s (mU p_b0.Sums)])] Q2 J2 rfl ?_
 refine rt ?_
 cases h
 exact (Wk.freeze (id := 32) rfl).trans (wt Q1 ⟨⟨_, rfl, .refl _⟩, Q0⟩ rfl)
theorem w_scrub_Copy [Off] {p_disks} {p_j} {r} (h : scrub_Copy p_disks p_j = some r) : Pure Tryz.prog 27 [(.s (mC p_disks)), (.a [(vi p_j.Id), (vi p_j.Ver), (vi p_j.From), (vi p_j.To), (vi p_j.Have), (vi p_j.Left)])] (.t [(.s (mC r.1)), (vi r.2)]) := by
 refine po Tryz.tok 51 Tryz.func27 (by kernel_rfl) rfl rfl rfl ?_
 unfold scrub_Copy at h
 refine wE [(0, .s (mC p_disks)), (1, .a [vi p_j.Id, vi p_j.Ver, vi p_j.From, vi p_j.To, vi p_j.Have, vi p_j.Left])] Q2 ?_
 refine sg ?_
 refine wT [(0, .s (mC p_disks)), (3, .b 3 0)] [(3, .box [vi p_j.Id, vi p_j.Ver, vi p_j.From, vi p_j.To, vi p_j.Have, vi p_j.Left])] Q2 J1 rfl ?_
 refine sq ?_
 obtain ⟨v1, hv1, h⟩ := bindS h
 refine Ok.seqw ⟨Cat.tab [(0, .s (mC p_disks)), (3, .b 3 0), (19, vb v1)], [(3, .box [vi p_j.Id, vi p_j.Ver, vi p_j.From, vi p_j.To, vi p_j.Have, vi p_j.Left])]⟩ ?_ ?_
 ·refine rg ?_
  obtain ⟨x1, hx1, hv1⟩ := bindS hv1
  refine ⟨_, rfl, ?_⟩
  refine CallOk.call (w_scrub_there hx1) (LeL.refl _) ?_
  obtain ⟨c1, hg1, hv1⟩ := bindS hv1
  refine Br.itf hg1 (fun hb hg1 => ?_) fun hb hg1 => ?_
  ·cases hg1
   cases hv1
   exact wt Q3 J1 rfl
  obtain ⟨x2, hx2, hg1⟩ := bindS hg1
  refine ⟨_, rfl, ?_⟩
  refine CallOk.call (w_scrub_there hx2) (LeL.refl _) ?_
  cases hg1
  cases hv1
  exact wt Q3 J1 rfl
 refine cn 19 (v1) rfl h (fun hb h => ?_) fun hb h => ?_
 ·refine sg ?_
  refine wE [(4, .s (mC p_disks)), (5, vi (1))] Q2 ?_
  refine rt ?_
  cases h
  exact (Fz.t (.cons Fz.s (.cons Fz.v .nil)))
 refine sk ?_
 refine sq ?_
 refine Ok.draw2 (m := 12) (late := [10]) (MD := ⟨[]⟩) (CH := ⟨[]⟩) Tryz.tok Tryz.mixed (by kernel_rfl) ?_
 obtain ⟨x3, hx3, h⟩ := bindS h
 obtain ⟨x4, hx4, h⟩ := bindS h
 refine ⟨_, rfl, _, rfl, _, ⟨_, rfl, rfl⟩, _, ⟨_, idx_nat hx3, _, idx_row hx3, rfl⟩, _, ⟨_, rfl, rfl⟩, _, rfl, _, ⟨_, rfl, rfl⟩, _, ⟨_, .of_pure (w_chunk_Get hx4) (LeL.refl _), rfl⟩, _, rfl, _, rfl, _, rfl, Q0, ?_⟩
 refine ⟨_, rfl, ⟨⟨_, rfl, rfl⟩, Q0⟩, ?_⟩
 refine wT [(0, .s (mC p_disks)), (3, .b 3 0), (6, .b 6 0), (7, vi x4.2)] [(3, .box [vi p_j.Id, vi p_j.Ver, vi p_j.From, vi p_j.To, vi p_j.Have, vi p_j.Left]), (6, .box [vi x4.1.Id, vi x4.1.Ver, .s (mI x4.1.Data), .s (mU x4.1.Sums)])] Q4 J2 rfl ?_
 refine sq ?_
 refine bl ?_
 refine sg ?_
 refine wT [(0, .s (mC p_disks)), (3, .b 3 0), (6, .b 6 0), (7, vi x4.2), (32, vb (x4.2 != 0))] [(3, .box [vi p_j.Id, vi p_j.Ver, vi p_j.From, vi p_j.To, vi p_j.Have, vi p_j.Left]), (6, .box [vi x4.1.Id, vi x4.1.Ver, .s (mI x4.1.Data), .s (mU x4.1.Sums)])] Q5 J2 rfl ?_
 refine cn 32 (x4.2 != 0) rfl h (fun hb h => ?_) fun hb h => ?_
 ·refine sg ?_
  refine wE [(4, .s (mC p_disks)), (5, vi x4.2)] Q2 ?_
  refine rt ?_
  cases h
  exact (Fz.t (.cons Fz.s (.cons Fz.v .nil)))
 refine sg ?_
 refine ⟨_, rfl, _, rfl, ?_⟩
 refine wT [(0, .s (mC p_disks)), (3, .b 3 0), (6, .b 6 0), (37, vb (x4.1.Ver != p_j.Ver))] [(3, .box [vi p_j.Id, vi p_j.Ver, vi p_j.From, vi p_j.To, vi p_j.Have, vi p_j.Left]), (6, .box [vi x4.1.Id, vi x4.1.Ver, .s (mI x4.1.Data), .s (mU x4.1.Sums)])] Q4 J2 rfl ?_
 refine cn 37 (x4.1.Ver != p_j.Ver) rfl h (fun hb h => ?_) fun hb h => ?_
 ·refine sg ?_
  refine wE [(4, .s (mC p_disks)), (5, vi (250))] Q2 ?_
  refine rt ?_
  cases h
  exact (Fz.t (.cons Fz.s (.cons Fz.v .nil)))
 refine sk ?_
 refine sg ?_
 obtain ⟨x6, hx6, h⟩ := bindS h
 refine ⟨_, rfl, ?_⟩
 refine CallOk.gen (m := [(1000, 6)]) (n := []) (wg_scrub_turn__scrub_Copy_1_2 hx6) (.cons (Ln.imm rfl) (.cons (Ln.imm rfl) (.cons (Ln.c (.nil) (.cons (Ln.b rfl) (.nil))) (.nil)))) ⟨⟨6, _, rfl, rfl, .box (.cons (Ln.imm rfl) (.cons (Ln.imm rfl) (.cons (Ln.imm rfl) (.cons (Ln.imm rfl) (.nil)))))⟩, Q0⟩ rfl rfl rfl ?_
 refine wE [(4, .s (mC x6.1)), (5, vi x6.2)] Q2 ?_
 refine rt ?_
 cases h
 exact (Fz.t (.cons Fz.s (.cons Fz.v .nil)))
theorem w_mend_Do [Off] {p_disks} {p_l} {r} (h : mend_Do p_disks p_l = some r) : Pure Tryz.prog 8 [(.s (mC p_disks)), (.s (mB p_l))] (.t [(.s (mC r.1)), (.s (mB r.2))]) := by
 refine po Tryz.tok 33 Tryz.func8 (by kernel_rfl) rfl rfl rfl ?_
 unfold mend_Do at h
 refine wE [(0, .s (mC p_disks)), (1, .s (mB p_l))] Q2 ?_
 refine sg ?_
 refine wE [(0, .s (mC p_disks)), (1, .s (mB p_l))] Q2 ?_
 refine sg ?_
 refine wE [(0, .s (mC p_disks)), (1, .s (mB p_l)), (6, .v (.slice none 0 0))] Q3 ?_
 obtain ⟨v1, hv1, h⟩ := bindS h
 refine Ok.seqw ⟨Cat.tab [(0, .s (mC v1.1)), (6, .o 29)], [(29, .own 47 6 (mB v1.2))]⟩ ?_ ?_
 ·refine sg ?_
  refine ⟨_, List.length_map _, fun _ => ?_⟩
  refine wE [(0, .s (mC p_disks)), (6, .v (.slice none 0 0)), (11, .s (mB p_l)), (12, vi (p_l.length : Int)), (13, vi (0))] Q5 ?_
  refine bl ?_
  refine Ok.loop (fun (s1 : (List api_Disk) × Int × (List api_Job)) => ⟨Cat.tab [(0, .s (mC s1.1)), (6, .o 29), (11, .s (mB p_l)), (12, vi (p_l.length : Int)), (13, vi s1.2.1)], [(29, .own 47 6 (mB s1.2.2))]⟩) (mend_Do_B1 p_l) (s0 := (p_disks, 0, [])) hv1 ((Wk.own0 (t := 6) (id := 29) (E := 47) (K := 6) rfl rfl).trans (wt Q5 ⟨⟨_, rfl, .refl _⟩, Q0⟩ rfl)) ?_
  intro s1 y1 hB1 hy1
  unfold mend_Do_B1 at hB1
  refine sg ?_
  refine wT [(0, .s (mC s1.1)), (6, .o 29), (11, .s (mB p_l)), (12, vi (p_l.length : Int)), (13, vi s1.2.1), (14, vb (decide (s1.2.1 < (p_l.length : Int))))] [(29, .own 47 6 (mB s1.2.2))] Q6 J1 rfl ?_
  refine sq ?_
  refine cn 14 (decide (s1.2.1 < (p_l.length : Int))) rfl hB1 (fun hb hB1 => ?_) fun hb hB1 => ?_
  ·refine sk ?_
   obtain ⟨v2, hv2, hB1⟩ := bindS hB1
   refine Ok.seqw ⟨Cat.tab [(0, .s (mC v2.1)), (6, .o 29), (11, .s (mB p_l)), (12, vi (p_l.length : Int)), (13, vi s1.2.1)], [(29, .own 47 6 (mB v2.2))]⟩ ?_ ?_
   ·refine bl ?_
    refine sg ?_
    obtain ⟨x1, hx1, hv2⟩ := bindS hv2
    refine ⟨_, idx_nat hx1, _, idx_row hx1, _, rfl, _, rfl, ?_⟩
    refine wT [(0, .s (mC s1.1)), (6, .o 29), (8, .b 8 0), (11, .s (mB p_l)), (12, vi (p_l.length : Int)), (13, vi s1.2.1)] [(29, .own 47 6 (mB s1.2.2)), (8, .box [vi x1.Id, vi x1.Ver, vi x1.From, vi x1.To, vi x1.Have, vi x1.Left])] Q6 J2 rfl ?_
    refine sg ?_
    obtain ⟨x2, hx2, hv2⟩ := bindS hv2
    refine ⟨_, rfl, ?_⟩
    refine CallOk.call (w_scrub_Copy hx2) (LeL.refl _) ?_
    refine wT [(0, .s (mC s1.1)), (6, .o 29), (8, .b 8 0), (9, .s (mC x2.1)), (10, vi x2.2), (11, .s (mB p_l)), (12, vi (p_l.length : Int)), (13, vi s1.2.1)] [(29, .own 47 6 (mB s1.2.2)), (8, .box [vi x1.Id, vi x1.Ver, vi x1.From, vi x1.To, vi x1.Have, vi x1.Left])] Q8 J2 rfl ?_
    refine sg ?_
    refine wT [(0, .s (mC s1.1)), (6, .o 29), (8, .b 8 0), (9, .s (mC x2.1)), (11, .s (mB p_l)), (12, vi (p_l.length : Int)), (13, vi s1.2.1), (24, vb (x2.2 == 0))] [(29, .own 47 6 (mB s1.2.2)), (8, .box [vi x1.Id, vi x1.Ver, vi x1.From, vi x1.To, vi x1.Have, vi x1.Left])] Q8 J2 rfl ?_
    refine cn 24 (x2.2 == 0) rfl hv2 (fun hb hv2 => ?_) fun hb hv2 => ?_
    ·refine rg ?_
     obtain ⟨hc1, hv2⟩ := chk_some hv2
     refine ⟨_, rfl, Or.inl ⟨rowsLen_map (f := c_api_Job) (n := 6) (fun _ => rfl) ([x1]), app_b2 (f := c_api_Job) (l := s1.2.2) (l' := [x1]) hc1, _, (List.map_append (f := c_api_Job) (l₁ := s1.2.2) (l₂ := [x1])).symm, ?_⟩⟩
     cases hv2
     exact wt Q5 J1 rfl
    refine sk ?_
    cases hv2
    exact wt Q5 J1 rfl
   refine rg ?_
   obtain ⟨hc2, hB1⟩ := chk_some hB1
   refine (Or.inl ⟨hc2, ?_⟩)
   exact ⟨_, sj hB1, wt Q5 J1 rfl⟩
  refine xt ?_
  have hB1 := out_ret hB1 hy1
  cases hB1
  exact wt Q2 J1 rfl
 refine sg ?_
 refine wT [(4, .s (mC v1.1)), (5, .o 29)] [(29, .own 47 6 (mB v1.2))] Q2 J1 rfl ?_
 refine rt ?_
 cases h
 exact (Fz.t (.cons Fz.s (.cons (Fz.o rfl) .nil)))
theorem w_mend_Round [Off] {p_disks} {p_chains} {p_l} {p_budget} {r} (h : mend_Round p_disks p_chains p_l p_budget = some r) : Pure Tryz.prog 11 [(.s (mC p_disks)), (.s (mD p_chains)), (.s (mB p_l)), (vi p_budget)] (.t [(.s (mC r.1)), (.s (mB r.2.1)), (.s (mB r.2.2))]) := by
 refine po Tryz.tok 40 Tryz.func11 (by kernel_rfl) rfl rfl rfl ?_
 unfold mend_Round at h
 refine wE [(0, .s (mC p_disks)), (1, .s (mD p_chains)), (2, .s (mB p_l)), (3, vi p_budget)] Q4 ?_
 refine sg ?_
 refine wE [(0, .s (mC p_disks)), (1, .s (mD p_chains)), (2, .s (mB p_l)), (3, vi p_budget)] Q4 ?_
 refine sg ?_
 obtain ⟨x1, hx1, h⟩ := bindS h
 refine CallOk.call (w_scrub_Plan hx1) (LeL.refl _) ?_
 refine wE [(0, .s (mC p_disks)), (2, .s (mB p_l)), (3, vi p_budget), (11, .s (mB x1.1))] Q4 ?_
 refine sg ?_
 obtain ⟨x2, hx2, h⟩ := bindS h
 refine CallOk.call (w_mend_Order hx2) (LeL.refl _) ?_
 obtain ⟨x3, hx3, h⟩ := bindS h
 refine CallOk.call (w_mend_Renew hx3) (LeL.refl _) ?_
 obtain ⟨x4, hx4, h⟩ := bindS h
 refine CallOk.call (w_mend_Step hx4) (LeL.refl _) ?_
 refine wE [(0, .s (mC p_disks)), (13, .s (mB x4.1)), (14, .s (mB x4.2))] Q3 ?_
 refine sg ?_
 obtain ⟨x5, hx5, h⟩ := bindS h
 refine CallOk.call (w_mend_Do hx5) (LeL.refl _) ?_
 refine wE [(0, .s (mC x5.1)), (13, .s (mB x4.1)), (15, .s (mB x5.2))] Q3 ?_
 refine sg ?_
 refine wE [(8, .s (mC x5.1)), (9, .s (mB x4.1)), (10, .s (mB x5.2))] Q3 ?_
 refine rt ?_
 cases h
 exact (Fz.t (.cons Fz.s (.cons Fz.s (.cons Fz.s .nil))))
end Go.Proofs
