/- The walks of this seat beside the plain programs, part 3. No condition. -/
import Derived.Test.YtcbpphgndncebabGreatXMendDoesEn
import Derived.Test.YtcbpphgndncebabGreatXMendDoesWk0
import Derived.Test.YtcbpphgndncebabGreatXMendDoesWk1
import Derived.Test.YtcbpphgndncebabGreatXMendDoesWk2
namespace Go.Proofs
set_option linter.all false
open Go Go.Cat
variable [M : Mono]
set_option maxRecDepth 100000
theorem w_ref25_Get {p_d} {p_id} {r} (h : ref25_Get p_d p_id = some r) : Pure Tryz.prog 49 [(.a [(.s (mB p_d.Synced)), (.s (mB p_d.Loose)), (vb p_d.Down)]), (vi p_id)] (.t [(.a [(vi r.1.Id), (vi r.1.Ver), (.s (mI r.1.Data)), (.s (mU r.1.Sums))]), (vi r.2)]) := by
 refine po Tryz.tok 66 Tryz.func49 (by kernel_rfl) rfl rfl rfl ?_
 unfold ref25_Get at h
 refine wE [(0, .a [.s (mB p_d.Synced), .s (mB p_d.Loose), vb p_d.Down]), (1, vi p_id)] Q2 ?_
 refine sg ?_
 refine wT [(1, vi p_id), (2, .b 2 0), (4, .b 4 0)] [(2, .box [.s (mB p_d.Synced), .s (mB p_d.Loose), vb p_d.Down]), (4, .box [vi (0), vi (0), .v (.slice none 0 0), .v (.slice none 0 0)])] Q3 J2 rfl ?_
 refine sq ?_
 obtain ⟨v1, hv1, h⟩ := bindS h
 refine Ok.seqw ⟨Cat.tab [(1, vi p_id), (2, .b 2 0), (4, .b 4 0), (15, vb v1)], [(2, .box [.s (mB p_d.Synced), .s (mB p_d.Loose), vb p_d.Down]), (4, .box [vi (0), vi (0), .v (.slice none 0 0), .v (.slice none 0 0)])]⟩ ?_ ?_
 ·refine rg ?_
  obtain ⟨c1, hg1, hv1⟩ := bindS hv1
  refine Br.itf hg1 (fun hb hg1 => ?_) fun hb hg1 => ?_
  ·cases hg1
   cases hv1
   exact wt Q4 J2 rfl
  cases hg1
  cases hv1
  exact wt Q4 J2 rfl
 refine cn 15 (v1) rfl h (fun hb h => ?_) fun hb h => ?_
 ·refine sg ?_
  refine ⟨_, rfl, ?_⟩
  refine wT [(4, .b 4 0), (5, vi (1))] [(4, .box [vi (0), vi (0), .v (.slice none 0 0), .v (.slice none 0 0)])] Q2 J1 rfl ?_
  refine rt ?_
  cases h
  exact ⟨_, rfl, (Fz.t (.cons (Fz.a (.cons Fz.v (.cons Fz.v (.cons Fz.nil (.cons Fz.nil .nil))))) (.cons Fz.v .nil)))⟩
 refine sk ?_
 refine sg ?_
 obtain ⟨x1, hx1, h⟩ := bindS h
 refine ⟨_, rfl, ?_⟩
 refine CallOk.call (w_ref04N2 hx1) (LeL.refl _) ?_
 refine wT [(1, vi p_id), (4, .b 4 0), (6, .s (mI x1.1)), (7, vi x1.2)] [(4, .box [vi (0), vi (0), .v (.slice none 0 0), .v (.slice none 0 0)])] Q4 J1 rfl ?_
 refine sq ?_
 refine sg ?_
 refine wT [(1, vi p_id), (4, .b 4 0), (6, .s (mI x1.1)), (7, vi x1.2), (24, vb (x1.2 != 0))] [(4, .box [vi (0), vi (0), .v (.slice none 0 0), .v (.slice none 0 0)])] Q5 J1 rfl ?_
 refine cn 24 (x1.2 != 0) rfl h (fun hb h => ?_) fun hb h => ?_
 ·refine sg ?_
  refine ⟨_, rfl, ?_⟩
  refine wT [(4, .b 4 0), (5, vi x1.2)] [(4, .box [vi (0), vi (0), .v (.slice none 0 0), .v (.slice none 0 0)])] Q2 J1 rfl ?_
  refine rt ?_
  cases h
  exact ⟨_, rfl, (Fz.t (.cons (Fz.a (.cons Fz.v (.cons Fz.v (.cons Fz.nil (.cons Fz.nil .nil))))) (.cons Fz.v .nil)))⟩
 refine sk ?_
 refine sq ?_
 refine sg ?_
 refine ⟨_, List.length_map _, fun _ => ?_⟩
 refine wT [(1, vi p_id), (4, .b 4 0), (6, .s (mI x1.1)), (29, vb ((x1.1.length : Int) == 0))] [(4, .box [vi (0), vi (0), .v (.slice none 0 0), .v (.slice none 0 0)])] Q4 J1 rfl ?_
 refine cn 29 ((x1.1.length : Int) == 0) rfl h (fun hb h => ?_) fun hb h => ?_
 ·refine sg ?_
  refine ⟨_, rfl, ?_⟩
  refine wT [(4, .b 4 0), (5, vi (41))] [(4, .box [vi (0), vi (0), .v (.slice none 0 0), .v (.slice none 0 0)])] Q2 J1 rfl ?_
  refine rt ?_
  cases h
  exact ⟨_, rfl, (Fz.t (.cons (Fz.a (.cons Fz.v (.cons Fz.v (.cons Fz.nil (.cons Fz.nil .nil))))) (.cons Fz.v .nil)))⟩
 refine sk ?_
 refine sq ?_
 refine sg ?_
 refine ⟨_, List.length_map _, fun _ => ?_⟩
 refine wT [(1, vi p_id), (4, .b 4 0), (6, .s (mI x1.1)), (33, vb (decide ((x1.1.length : Int) < 4)))] [(4, .box [vi (0), vi (0), .v (.slice none 0 0), .v (.slice none 0 0)])] Q4 J1 rfl ?_
 refine cn 33 (decide ((x1.1.length : Int) < 4)) rfl h (fun hb h => ?_) fun hb h => ?_
 ·refine sg ?_
  refine ⟨_, rfl, ?_⟩
  refine wT [(4, .b 4 0), (5, vi (251))] [(4, .box [vi (0), vi (0), .v (.slice none 0 0), .v (.slice none 0 0)])] Q2 J1 rfl ?_
  refine rt ?_
  cases h
  exact ⟨_, rfl, (Fz.t (.cons (Fz.a (.cons Fz.v (.cons Fz.v (.cons Fz.nil (.cons Fz.nil .nil))))) (.cons Fz.v .nil)))⟩
 refine sk ?_
 refine sg ?_
 obtain ⟨hc1, h⟩ := chk_some h
 obtain ⟨hc2, h⟩ := chk_some h
 obtain ⟨x2, hx2, h⟩ := bindS h
 refine ⟨_, List.length_map _, fun _ => (Or.inl ⟨hc1, _, sl_nat hc2.1, Nat.zero_le _, sl_len hc2, rowsK (f := cU8) (K := 1) (fun _ => rfl) x1.1, _, sl_take _ _ _, ?_⟩)⟩
 refine CallOk.call (w_ref25N4 hx2) (LeL.refl _) ?_
 refine ⟨_, rfl, ?_⟩
 refine wT [(1, vi p_id), (4, .b 4 0), (6, .s (mI x1.1)), (8, .b 8 0), (9, vb x2.2)] [(4, .box [vi (0), vi (0), .v (.slice none 0 0), .v (.slice none 0 0)]), (8, .box [vi x2.1.Id, vi x2.1.Ver, .s (mI x2.1.Data), .s (mU x2.1.Sums)])] Q5 J2 rfl ?_
 refine sq ?_
 obtain ⟨v2, hv2, h⟩ := bindS h
 refine Ok.seqw ⟨Cat.tab [(4, .b 4 0), (8, .b 8 0), (63, vb v2)], [(4, .box [vi (0), vi (0), .v (.slice none 0 0), .v (.slice none 0 0)]), (8, .box [vi x2.1.Id, vi x2.1.Ver, .s (mI x2.1.Data), .s (mU x2.1.Sums)])]⟩ ?_ ?_
 ·refine rg ?_
  obtain ⟨c2, hg2, hv2⟩ := bindS hv2
  refine Br.itf hg2 (fun hb hg2 => ?_) fun hb hg2 => ?_
  ·cases hg2
   obtain ⟨c3, hg3, hv2⟩ := bindS hv2
   replace hg3 := iteT hg3
   cases hg3
   obtain ⟨c4, hg4, hv2⟩ := bindS hv2
   replace hg4 := iteT hg4
   cases hg4
   cases hv2
   exact wt Q3 J2 rfl
  obtain ⟨x3, hx3, hg2⟩ := bindS hg2
  refine ⟨_, rfl, ?_⟩
  refine CallOk.call (w_ref25_May hx3) (LeL.refl _) ?_
  cases hg2
  obtain ⟨c3, hg5, hv2⟩ := bindS hv2
  refine Br.itf hg5 (fun hb hg5 => ?_) fun hb hg5 => ?_
  ·cases hg5
   obtain ⟨c4, hg6, hv2⟩ := bindS hv2
   replace hg6 := iteT hg6
   cases hg6
   cases hv2
   exact wt Q3 J2 rfl
  refine ⟨_, rfl, ?_⟩
  cases hg5
  obtain ⟨c4, hg7, hv2⟩ := bindS hv2
  refine Br.itf hg7 (fun hb hg7 => ?_) fun hb hg7 => ?_
  ·cases hg7
   cases hv2
   exact wt Q3 J2 rfl
  obtain ⟨x4, hx4, hg7⟩ := bindS hg7
  refine ⟨_, rfl, ?_⟩
  refine CallOk.call (w_ref25N1 hx4) (LeL.refl _) ?_
  obtain ⟨x5, hx5, hg7⟩ := bindS hg7
  refine CallOk.call (w_ref02N2 hx5) (LeL.refl _) ?_
  cases hg7
  cases hv2
  exact wt Q3 J2 rfl
 refine cn 63 (v2) rfl h (fun hb h => ?_) fun hb h => ?_
 ·refine sg ?_
  refine ⟨_, rfl, ?_⟩
  refine wT [(4, .b 4 0), (5, vi (251))] [(4, .box [vi (0), vi (0), .v (.slice none 0 0), .v (.slice none 0 0)])] Q2 J1 rfl ?_
  refine rt ?_
  cases h
  exact ⟨_, rfl, (Fz.t (.cons (Fz.a (.cons Fz.v (.cons Fz.v (.cons Fz.nil (.cons Fz.nil .nil))))) (.cons Fz.v .nil)))⟩
 refine sk ?_
 refine sg ?_
 refine ⟨_, rfl, _, rfl, ?_⟩
 refine wT [(4, .b 4 0), (5, vi (0))] [(4, .box [vi x2.1.Id, vi x2.1.Ver, .s (mI x2.1.Data), .s (mU x2.1.Sums)])] Q2 J1 rfl ?_
 refine rt ?_
 cases h
 exact ⟨_, rfl, (Fz.t (.cons (Fz.imm rfl) (.cons Fz.v .nil)))⟩
theorem w_ref04N5 {p_d} {p_at} {p_data} {r} (h : ref04_Write p_d p_at p_data = some r) : Pure Tryz.prog 87 [(.a [(.s (mB p_d.Synced)), (.s (mB p_d.Loose)), (vb p_d.Down)]), (vi p_at), (.s (mI p_data))] (.t [(.a [(.s (mB r.1.Synced)), (.s (mB r.1.Loose)), (vb r.1.Down)]), (vi r.2)]) := by
 refine po Tryz.tok 38 Tryz.func87 (by kernel_rfl) rfl rfl rfl ?_
 unfold ref04_Write at h
 refine wE [(0, .a [.s (mB p_d.Synced), .s (mB p_d.Loose), vb p_d.Down]), (1, vi p_at), (2, .s (mI p_data))] Q3 ?_
 refine sg ?_
 refine wT [(1, vi p_at), (2, .s (mI p_data)), (3, .b 3 0), (6, .b 6 0)] [(3, .box [.s (mB p_d.Synced), .s (mB p_d.Loose), vb p_d.Down]), (6, .box [.v (.slice none 0 0), .v (.slice none 0 0), vb false])] Q4 J2 rfl ?_
 refine sq ?_
 refine sg ?_
 refine ⟨_, rfl, ?_⟩
 refine wT [(1, vi p_at), (2, .s (mI p_data)), (3, .b 3 0), (6, .b 6 0), (12, vb p_d.Down)] [(3, .box [.s (mB p_d.Synced), .s (mB p_d.Loose), vb p_d.Down]), (6, .box [.v (.slice none 0 0), .v (.slice none 0 0), vb false])] Q5 J2 rfl ?_
 refine cn 12 (p_d.Down) rfl h (fun hb h => ?_) fun hb h => ?_
 ·refine sg ?_
  refine ⟨_, rfl, _, rfl, ?_⟩
  refine wT [(6, .b 6 0), (7, vi (40))] [(6, .box [.s (mB p_d.Synced), .s (mB p_d.Loose), vb p_d.Down])] Q2 J1 rfl ?_
  refine rt ?_
  cases h
  exact ⟨_, rfl, (Fz.t (.cons (Fz.imm rfl) (.cons Fz.v .nil)))⟩
 refine sk ?_
 refine sg ?_
 refine ⟨_, rfl, ?_⟩
 refine wT [(3, .b 3 0), (6, .b 6 0), (8, .b 8 0)] [(3, .box [.s (mB p_d.Synced), .s (mB p_d.Loose), vb p_d.Down]), (6, .box [.v (.slice none 0 0), .v (.slice none 0 0), vb false]), (8, .box [vi p_at, .s (mI p_data)])] Q3 J3 rfl ?_
 refine sg ?_
 obtain ⟨x1, hx1, h⟩ := bindS h
 refine ⟨_, rfl, ?_⟩
 refine CallOk.call (w_ref04N1 hx1) (LeL.refl _) ?_
 refine wT [(3, .b 3 0), (6, .b 6 0), (8, .b 8 0), (9, vb x1)] [(3, .box [.s (mB p_d.Synced), .s (mB p_d.Loose), vb p_d.Down]), (6, .box [.v (.slice none 0 0), .v (.slice none 0 0), vb false]), (8, .box [vi p_at, .s (mI p_data)])] Q4 J3 rfl ?_
 refine sq ?_
 refine sg ?_
 refine wT [(3, .b 3 0), (6, .b 6 0), (8, .b 8 0), (20, vb (!x1))] [(3, .box [.s (mB p_d.Synced), .s (mB p_d.Loose), vb p_d.Down]), (6, .box [.v (.slice none 0 0), .v (.slice none 0 0), vb false]), (8, .box [vi p_at, .s (mI p_data)])] Q4 J3 rfl ?_
 refine cn 20 (!x1) rfl h (fun hb h => ?_) fun hb h => ?_
 ·refine sg ?_
  refine ⟨_, rfl, _, rfl, ?_⟩
  refine wT [(6, .b 6 0), (7, vi (1))] [(6, .box [.s (mB p_d.Synced), .s (mB p_d.Loose), vb p_d.Down])] Q2 J1 rfl ?_
  refine rt ?_
  cases h
  exact ⟨_, rfl, (Fz.t (.cons (Fz.imm rfl) (.cons Fz.v .nil)))⟩
 refine sk ?_
 refine sg ?_
 refine ⟨_, rfl, _, rfl, ?_⟩
 refine wT [(3, .b 3 0), (6, .b 6 0), (8, .b 8 0), (10, .b 10 0)] [(3, .box [.s (mB p_d.Synced), .s (mB p_d.Loose), vb p_d.Down]), (6, .box [.v (.slice none 0 0), .v (.slice none 0 0), vb false]), (8, .box [vi p_at, .s (mI p_data)]), (10, .box [.s (mB p_d.Synced), .v (.slice none 0 0), vb false])] Q4 J4 rfl ?_
 refine sg ?_
 obtain ⟨hc1, h⟩ := chk_some h
 refine ⟨_, rfl, _, rfl, rowsLen_map (f := c_api_Page) (n := 2) (fun _ => rfl) p_d.Loose, app_b1 (f := c_api_Page) (l' := p_d.Loose) hc1, _, rfl, _, rfl, ?_⟩
 refine wT [(6, .b 6 0), (8, .b 8 0), (10, .b 10 0)] [(6, .box [.v (.slice none 0 0), .v (.slice none 0 0), vb false]), (8, .box [vi p_at, .s (mI p_data)]), (10, .box [.s (mB p_d.Synced), .o 29, vb false]), (29, .own 85 2 (mB p_d.Loose))] Q3 J4 rfl ?_
 refine sg ?_
 obtain ⟨hc2, h⟩ := chk_some h
 refine ⟨_, rfl, _, rfl, Or.inl ⟨rowsLen_map (f := c_api_Page) (n := 2) (fun _ => rfl) ([(⟨p_at, p_data⟩ : api_Page)]), app_b2 (f := c_api_Page) (l := p_d.Loose) (l' := [(⟨p_at, p_data⟩ : api_Page)]) hc2, _, (List.map_append (f := c_api_Page) (l₁ := p_d.Loose) (l₂ := [(⟨p_at, p_data⟩ : api_Page)])).symm, _, rfl, ?_⟩⟩
 refine wT [(6, .b 6 0), (10, .b 10 0)] [(6, .box [.v (.slice none 0 0), .v (.slice none 0 0), vb false]), (10, .box [.s (mB p_d.Synced), .o 29, vb false]), (29, .own 85 2 (mB (p_d.Loose ++ [(⟨p_at, p_data⟩ : api_Page)])))] Q2 J3 rfl ?_
 refine sg ?_
 refine ⟨_, rfl, _, rfl, ?_⟩
 refine wT [(6, .b 6 0), (7, vi (0))] [(6, .box [.s (mB p_d.Synced), .o 29, vb false]), (29, .own 85 2 (mB (p_d.Loose ++ [(⟨p_at, p_data⟩ : api_Page)])))] Q2 J2 rfl ?_
 refine rt ?_
 cases h
 exact ⟨_, rfl, (Fz.t (.cons (Fz.a (.cons Fz.s (.cons (Fz.o rfl) (.cons Fz.v .nil)))) (.cons Fz.v .nil)))⟩
theorem w_ref25_Put {p_d} {p_c} {r} (h : ref25_Put p_d p_c = some r) : Pure Tryz.prog 58 [(.a [(.s (mB p_d.Synced)), (.s (mB p_d.Loose)), (vb p_d.Down)]), (.a [(vi p_c.Id), (vi p_c.Ver), (.s (mI p_c.Data)), (.s (mU p_c.Sums))])] (.t [(.a [(.s (mB r.1.Synced)), (.s (mB r.1.Loose)), (vb r.1.Down)]), (vi r.2)]) := by
 refine po Tryz.tok 18 Tryz.func58 (by kernel_rfl) rfl rfl rfl ?_
 unfold ref25_Put at h
 refine wE [(0, .a [.s (mB p_d.Synced), .s (mB p_d.Loose), vb p_d.Down]), (1, .a [vi p_c.Id, vi p_c.Ver, .s (mI p_c.Data), .s (mU p_c.Sums)])] Q2 ?_
 refine sg ?_
 refine wT [(2, .b 2 0), (3, .b 3 0), (4, .b 4 0)] [(2, .box [.s (mB p_d.Synced), .s (mB p_d.Loose), vb p_d.Down]), (3, .box [vi p_c.Id, vi p_c.Ver, .s (mI p_c.Data), .s (mU p_c.Sums)]), (4, .box [.v (.slice none 0 0), .v (.slice none 0 0), vb false])] Q3 J3 rfl ?_
 refine sq ?_
 refine sg ?_
 obtain ⟨x1, hx1, h⟩ := bindS h
 refine ⟨_, rfl, ?_⟩
 refine CallOk.call (w_ref25_May hx1) (LeL.refl _) ?_
 refine wT [(2, .b 2 0), (3, .b 3 0), (4, .b 4 0), (8, vb (!x1))] [(2, .box [.s (mB p_d.Synced), .s (mB p_d.Loose), vb p_d.Down]), (3, .box [vi p_c.Id, vi p_c.Ver, .s (mI p_c.Data), .s (mU p_c.Sums)]), (4, .box [.v (.slice none 0 0), .v (.slice none 0 0), vb false])] Q4 J3 rfl ?_
 refine cn 8 (!x1) rfl h (fun hb h => ?_) fun hb h => ?_
 ·refine sg ?_
  refine ⟨_, rfl, _, rfl, ?_⟩
  refine wT [(4, .b 4 0), (5, vi (1))] [(4, .box [.s (mB p_d.Synced), .s (mB p_d.Loose), vb p_d.Down])] Q2 J1 rfl ?_
  refine rt ?_
  cases h
  exact ⟨_, rfl, (Fz.t (.cons (Fz.imm rfl) (.cons Fz.v .nil)))⟩
 refine sk ?_
 refine sq ?_
 refine Ok.draw (m := 8) (MD := ⟨[]⟩) (CH := ⟨[]⟩) Tryz.tok Tryz.mixed (by kernel_rfl) ?_
 obtain ⟨x2, hx2, h⟩ := bindS h
 obtain ⟨x3, hx3, h⟩ := bindS h
 refine ⟨_, ⟨_, rfl, rfl⟩, _, rfl, _, ⟨_, rfl, rfl⟩, _, ⟨_, rfl, rfl⟩, _, ⟨_, .of_pure (w_ref25N1 hx2) (LeL.refl _), rfl⟩, _, ⟨_, .of_pure (w_ref04N5 hx3) (LeL.refl _), rfl⟩, _, rfl, _, rfl, Q0, _, rfl, ?_⟩
 refine wT [(4, .b 4 0), (5, vi x3.2)] [(4, .box [.s (mB x3.1.Synced), .s (mB x3.1.Loose), vb x3.1.Down])] Q2 J1 rfl ?_
 refine rt ?_
 cases h
 exact ⟨_, rfl, (Fz.t (.cons (Fz.imm rfl) (.cons Fz.v .nil)))⟩
theorem wo_ref04N1 {p_l} {p_p} {r} (h : ref04_lay p_l p_p = some r) : POwn Tryz.prog 88 [(.s (mB p_l)), (.a [(vi p_p.At), (.s (mI p_p.Data))])] 85 2 (mB r) := by
 refine pw Tryz.tok 52 Tryz.func88 (by kernel_rfl) rfl rfl rfl ?_
 unfold ref04_lay at h
 refine wE [(0, .s (mB p_l)), (1, .a [vi p_p.At, .s (mI p_p.Data)])] Q2 ?_
 refine sg ?_
 refine wT [(0, .s (mB p_l)), (3, .b 3 0)] [(3, .box [vi p_p.At, .s (mI p_p.Data)])] Q2 J1 rfl ?_
 refine sg ?_
 refine wT [(0, .s (mB p_l)), (3, .b 3 0), (5, .v (.slice none 0 0))] [(3, .box [vi p_p.At, .s (mI p_p.Data)])] Q3 J1 rfl ?_
 refine sg ?_
 refine wT [(0, .s (mB p_l)), (3, .b 3 0), (5, .v (.slice none 0 0)), (6, vb false)] [(3, .box [vi p_p.At, .s (mI p_p.Data)])] Q4 J1 rfl ?_
 obtain ⟨v1, hv1, h⟩ := bindS h
 refine Ok.seqw ⟨Cat.tab [(3, .b 3 0), (5, .o 29), (6, vb v1.1)], [(3, .box [vi p_p.At, .s (mI p_p.Data)]), (29, .own 85 2 (mB v1.2))]⟩ ?_ ?_
 ·refine sg ?_
  refine wT [(0, .s (mB p_l)), (3, .b 3 0), (5, .v (.slice none 0 0)), (6, vb false), (7, vi (0))] [(3, .box [vi p_p.At, .s (mI p_p.Data)])] Q5 J1 rfl ?_
  refine bl ?_
  refine Ok.loop (fun (s1 : Bool × Int × (List api_Page)) => ⟨Cat.tab [(0, .s (mB p_l)), (3, .b 3 0), (5, .o 29), (6, vb s1.1), (7, vi s1.2.1)], [(3, .box [vi p_p.At, .s (mI p_p.Data)]), (29, .own 85 2 (mB s1.2.2))]⟩) (ref04N15 p_l p_p) (s0 := (false, 0, [])) hv1 ((Wk.own0 (t := 5) (id := 29) (E := 85) (K := 2) rfl rfl).trans (wt Q5 ⟨⟨_, rfl, .refl _⟩, ⟨_, rfl, .refl _⟩, Q0⟩ rfl)) ?_
  intro s1 y1 hB1 hy1
  unfold ref04N15 at hB1
  refine sq ?_
  refine sg ?_
  refine ⟨_, List.length_map _, fun _ => ?_⟩
  refine wT [(0, .s (mB p_l)), (3, .b 3 0), (5, .o 29), (6, vb s1.1), (7, vi s1.2.1), (11, vb (decide (s1.2.1 < (p_l.length : Int))))] [(3, .box [vi p_p.At, .s (mI p_p.Data)]), (29, .own 85 2 (mB s1.2.2))] Q6 J2 rfl ?_
  refine cn 11 (decide (s1.2.1 < (p_l.length : Int))) rfl hB1 (fun hb hB1 => ?_) fun hb hB1 => ?_
  ·refine sk ?_
   obtain ⟨v2, hv2, hB1⟩ := bindS hB1
   refine Ok.seqw ⟨Cat.tab [(0, .s (mB p_l)), (3, .b 3 0), (5, .o 29), (6, vb v2.1), (7, vi s1.2.1)], [(3, .box [vi p_p.At, .s (mI p_p.Data)]), (29, .own 85 2 (mB v2.2))]⟩ ?_ ?_
   ·refine bl ?_
    obtain ⟨v3, hv3, hv2⟩ := bindS hv2
    refine Ok.seqw ⟨Cat.tab [(0, .s (mB p_l)), (3, .b 3 0), (5, .o 29), (6, vb v3.1), (7, vi s1.2.1)], [(3, .box [vi p_p.At, .s (mI p_p.Data)]), (29, .own 85 2 (mB v3.2))]⟩ ?_ ?_
    ·obtain ⟨v4, hv4, hv3⟩ := bindS hv3
     refine Ok.seqw ⟨Cat.tab [(0, .s (mB p_l)), (3, .b 3 0), (5, .o 29), (6, vb s1.1), (7, vi s1.2.1), (25, vb v4)], [(3, .box [vi p_p.At, .s (mI p_p.Data)]), (29, .own 85 2 (mB s1.2.2))]⟩ ?_ ?_
     ·refine Ok.draw (m := 12) (MD := ⟨[]⟩) (CH := ⟨[]⟩) Tryz.tok Tryz.mixed (by kernel_rfl) ?_
      refine ⟨_, rfl, _, rfl, _, rfl, ?_⟩
      obtain ⟨c1, hg1, hv4⟩ := bindS hv4
      refine Br.ite hg1 (fun hb hg1 => ?_) fun hb hg1 => ?_
      ·obtain ⟨x1, hx1, hg1⟩ := bindS hg1
       refine ⟨_, rfl, _, rfl, _, ⟨_, idx_nat hx1, _, idx_row hx1, rfl⟩, _, rfl, _, ⟨_, rfl, rfl⟩, _, rfl, _, ⟨_, rfl, rfl⟩, _, rfl, ?_⟩
       cases hg1
       refine ⟨_, rfl, ?_⟩
       refine ⟨Q0, ?_⟩
       cases hv4
       exact wt Q6 J2 rfl
      cases hg1
      refine ⟨_, rfl, ?_⟩
      refine ⟨Q0, ?_⟩
      cases hv4
      exact wt Q6 J2 rfl
     refine cn 25 (v4) rfl hv3 (fun hb hv3 => ?_) fun hb hv3 => ?_
     ·refine sg ?_
      obtain ⟨hc1, hv3⟩ := chk_some hv3
      refine ⟨_, rfl, Or.inl ⟨rowsLen_map (f := c_api_Page) (n := 2) (fun _ => rfl) ([p_p]), app_b2 (f := c_api_Page) (l := s1.2.2) (l' := [p_p]) hc1, _, (List.map_append (f := c_api_Page) (l₁ := s1.2.2) (l₂ := [p_p])).symm, ?_⟩⟩
      refine wT [(0, .s (mB p_l)), (3, .b 3 0), (5, .o 29), (7, vi s1.2.1)] [(3, .box [vi p_p.At, .s (mI p_p.Data)]), (29, .own 85 2 (mB (s1.2.2 ++ [p_p])))] Q4 J2 rfl ?_
      refine rg ?_
      cases hv3
      exact wt Q5 J2 rfl
     refine sk ?_
     cases hv3
     exact wt Q5 J2 rfl
    refine sq ?_
    refine Ok.draw (m := 8) (MD := ⟨[]⟩) (CH := ⟨[]⟩) Tryz.tok Tryz.mixed (by kernel_rfl) ?_
    obtain ⟨x2, hx2, hv2⟩ := bindS hv2
    refine ⟨_, rfl, _, rfl, _, ⟨_, idx_nat hx2, _, idx_row hx2, rfl⟩, _, rfl, _, ⟨_, rfl, rfl⟩, _, rfl, _, ⟨_, rfl, rfl⟩, _, rfl, Q0, ?_⟩
    refine wT [(0, .s (mB p_l)), (3, .b 3 0), (5, .o 29), (6, vb v3.1), (7, vi s1.2.1), (37, vb (x2.At != p_p.At))] [(3, .box [vi p_p.At, .s (mI p_p.Data)]), (29, .own 85 2 (mB v3.2))] Q6 J2 rfl ?_
    refine cn 37 (x2.At != p_p.At) rfl hv2 (fun hb hv2 => ?_) fun hb hv2 => ?_
    ·refine rg ?_
     obtain ⟨x3, hx3, hv2⟩ := bindS hv2
     obtain ⟨hc2, hv2⟩ := chk_some hv2
     refine ⟨_, idx_nat hx3, _, idx_row hx3, _, rfl, Or.inl ⟨rowsLen_map (f := c_api_Page) (n := 2) (fun _ => rfl) ([x3]), app_b2 (f := c_api_Page) (l := v3.2) (l' := [x3]) hc2, _, (List.map_append (f := c_api_Page) (l₁ := v3.2) (l₂ := [x3])).symm, ?_⟩⟩
     cases hv2
     exact wt Q5 J2 rfl
    refine sk ?_
    cases hv2
    exact wt Q5 J2 rfl
   refine rg ?_
   obtain ⟨hc3, hB1⟩ := chk_some hB1
   refine (Or.inl ⟨hc3, ?_⟩)
   exact ⟨_, sj hB1, wt Q5 J2 rfl⟩
  refine xt ?_
  have hB1 := out_ret hB1 hy1
  cases hB1
  exact wt Q3 J2 rfl
 obtain ⟨v5, hv5, h⟩ := bindS h
 refine Ok.seqw ⟨Cat.tab [(5, .o 29)], [(29, .own 85 2 (mB v5))]⟩ ?_ ?_
 ·refine sg ?_
  refine wT [(3, .b 3 0), (5, .o 29), (46, vb (!v1.1))] [(3, .box [vi p_p.At, .s (mI p_p.Data)]), (29, .own 85 2 (mB v1.2))] Q3 J2 rfl ?_
  refine cn 46 (!v1.1) rfl hv5 (fun hb hv5 => ?_) fun hb hv5 => ?_
  ·refine rg ?_
   obtain ⟨hc4, hv5⟩ := chk_some hv5
   refine ⟨_, rfl, Or.inl ⟨rowsLen_map (f := c_api_Page) (n := 2) (fun _ => rfl) ([p_p]), app_b2 (f := c_api_Page) (l := v1.2) (l' := [p_p]) hc4, _, (List.map_append (f := c_api_Page) (l₁ := v1.2) (l₂ := [p_p])).symm, ?_⟩⟩
   cases hv5
   exact wt Q1 J1 rfl
  refine sk ?_
  cases hv5
  exact wt Q1 J1 rfl
 refine sg ?_
 refine wT [(4, .o 29)] [(29, .own 85 2 (mB v5))] Q1 J1 rfl ?_
 refine rt ?_
 cases h
 exact (.inr ⟨_, rfl, rfl⟩)
theorem w_ref04_lay {p_l} {p_p} {r} (h : ref04_lay p_l p_p = some r) : Pure Tryz.prog 88 [(.s (mB p_l)), (.a [(vi p_p.At), (.s (mI p_p.Data))])] (.s (mB r)) := (wo_ref04N1 h).pure
theorem w_ref04N4 {p_d} {r} (h : ref04_Sync p_d = some r) : Pure Tryz.prog 59 [(.a [(.s (mB p_d.Synced)), (.s (mB p_d.Loose)), (vb p_d.Down)])] (.t [(.a [(.s (mB r.1.Synced)), (.s (mB r.1.Loose)), (vb r.1.Down)]), (vi r.2)]) := by
 refine po Tryz.tok 29 Tryz.func59 (by kernel_rfl) rfl rfl rfl ?_
 unfold ref04_Sync at h
 refine wE [(0, .a [.s (mB p_d.Synced), .s (mB p_d.Loose), vb p_d.Down])] Q1 ?_
 refine sg ?_
 refine wT [(1, .b 1 0), (2, .b 2 0)] [(1, .box [.s (mB p_d.Synced), .s (mB p_d.Loose), vb p_d.Down]), (2, .box [.v (.slice none 0 0), .v (.slice none 0 0), vb false])] Q2 J2 rfl ?_
 refine sq ?_
 refine sg ?_
 refine ⟨_, rfl, ?_⟩
 refine wT [(1, .b 1 0), (2, .b 2 0), (7, vb p_d.Down)] [(1, .box [.s (mB p_d.Synced), .s (mB p_d.Loose), vb p_d.Down]), (2, .box [.v (.slice none 0 0), .v (.slice none 0 0), vb false])] Q3 J2 rfl ?_
 refine cn 7 (p_d.Down) rfl h (fun hb h => ?_) fun hb h => ?_
 ·refine sg ?_
  refine ⟨_, rfl, _, rfl, ?_⟩
  refine wT [(2, .b 2 0), (3, vi (40))] [(2, .box [.s (mB p_d.Synced), .s (mB p_d.Loose), vb p_d.Down])] Q2 J1 rfl ?_
  refine rt ?_
  cases h
  exact ⟨_, rfl, (Fz.t (.cons (Fz.imm rfl) (.cons Fz.v .nil)))⟩
 refine sk ?_
 refine sg ?_
 refine ⟨_, rfl, _, rfl, ?_⟩
 refine wT [(1, .b 1 0), (2, .b 2 0), (4, .b 4 0)] [(1, .box [.s (mB p_d.Synced), .s (mB p_d.Loose), vb p_d.Down]), (2, .box [.v (.slice none 0 0), .v (.slice none 0 0), vb false]), (4, .box [.s (mB p_d.Synced), .v (.slice none 0 0), vb false])] Q3 J3 rfl ?_
 obtain ⟨v1, hv1, h⟩ := bindS h
 refine Ok.seqw ⟨Cat.tab [(2, .b 2 0), (4, .b 4 0)], [(2, .box [.v (.slice none 0 0), .v (.slice none 0 0), vb false]), (4, .box [.s (mB v1), .v (.slice none 0 0), vb false])]⟩ ?_ ?_
 ·refine sg ?_
  refine wT [(1, .b 1 0), (2, .b 2 0), (4, .b 4 0), (5, vi (0))] [(1, .box [.s (mB p_d.Synced), .s (mB p_d.Loose), vb p_d.Down]), (2, .box [.v (.slice none 0 0), .v (.slice none 0 0), vb false]), (4, .box [.s (mB p_d.Synced), .v (.slice none 0 0), vb false])] Q4 J3 rfl ?_
  refine bl ?_
  refine Ok.loop (fun (s1 : Int × (List api_Page)) => ⟨Cat.tab [(1, .b 1 0), (2, .b 2 0), (4, .b 4 0), (5, vi s1.1)], [(1, .box [.s (mB p_d.Synced), .s (mB p_d.Loose), vb p_d.Down]), (2, .box [.v (.slice none 0 0), .v (.slice none 0 0), vb false]), (4, .box [.s (mB s1.2), .v (.slice none 0 0), vb false])]⟩) (ref04N13 p_d) (s0 := (0, p_d.Synced)) hv1 (wt Q4 ⟨⟨_, rfl, .refl _⟩, ⟨_, rfl, .refl _⟩, ⟨_, rfl, .refl _⟩, Q0⟩ rfl) ?_
  intro s1 y1 hB1 hy1
  unfold ref04N13 at hB1
  refine sq ?_
  refine sg ?_
  refine ⟨_, rfl, _, List.length_map _, fun _ => ?_⟩
  refine wT [(1, .b 1 0), (2, .b 2 0), (4, .b 4 0), (5, vi s1.1), (16, vb (decide (s1.1 < (p_d.Loose.length : Int))))] [(1, .box [.s (mB p_d.Synced), .s (mB p_d.Loose), vb p_d.Down]), (2, .box [.v (.slice none 0 0), .v (.slice none 0 0), vb false]), (4, .box [.s (mB s1.2), .v (.slice none 0 0), vb false])] Q5 J3 rfl ?_
  refine cn 16 (decide (s1.1 < (p_d.Loose.length : Int))) rfl hB1 (fun hb hB1 => ?_) fun hb hB1 => ?_
  ·refine sk ?_
   refine sq ?_
   refine bl ?_
   refine Ok.draw (m := 9) (MD := ⟨[]⟩) (CH := ⟨[]⟩) Tryz.tok Tryz.mixed (by kernel_rfl) ?_
   obtain ⟨x1, hx1, hB1⟩ := bindS hB1
   obtain ⟨x2, hx2, hB1⟩ := bindS hB1
   refine ⟨_, rfl, _, ⟨_, rfl, rfl⟩, _, rfl, _, ⟨_, rfl, rfl⟩, _, rfl, _, ⟨_, idx_nat hx1, _, idx_row hx1, rfl⟩, _, ⟨_, rfl, rfl⟩, _, ⟨_, .of_pure (w_ref04_lay hx2) (LeL.refl _), rfl⟩, _, rfl, Q0, _, rfl, ?_⟩
   refine wT [(1, .b 1 0), (2, .b 2 0), (4, .b 4 0), (5, vi s1.1)] [(1, .box [.s (mB p_d.Synced), .s (mB p_d.Loose), vb p_d.Down]), (2, .box [.v (.slice none 0 0), .v (.slice none 0 0), vb false]), (4, .box [.s (mB x2), .v (.slice none 0 0), vb false])] Q4 J3 rfl ?_
   refine rg ?_
   obtain ⟨hc1, hB1⟩ := chk_some hB1
   refine (Or.inl ⟨hc1, ?_⟩)
   exact ⟨_, sj hB1, wt Q4 J3 rfl⟩
  refine xt ?_
  have hB1 := out_ret hB1 hy1
  cases hB1
  exact wt Q2 J2 rfl
 refine sg ?_
 refine ⟨_, rfl, _, rfl, ?_⟩
 refine wT [(2, .b 2 0), (3, vi (0))] [(2, .box [.s (mB v1), .v (.slice none 0 0), vb false])] Q2 J1 rfl ?_
 refine rt ?_
 cases h
 exact ⟨_, rfl, (Fz.t (.cons (Fz.a (.cons Fz.s (.cons Fz.nil (.cons Fz.v .nil)))) (.cons Fz.v .nil)))⟩
theorem wo_ref27N3 {p_disks} {p_s} {p_d} {r} (h : ref27_with p_disks p_s p_d = some r) : POwn Tryz.prog 60 [(.s (mC p_disks)), (vi p_s), (.a [(.s (mB p_d.Synced)), (.s (mB p_d.Loose)), (vb p_d.Down)])] 55 3 (mC r) := by
 refine pw Tryz.tok 16 Tryz.func60 (by kernel_rfl) rfl rfl rfl ?_
 unfold ref27_with at h
 refine wE [(0, .s (mC p_disks)), (1, vi p_s), (2, .a [.s (mB p_d.Synced), .s (mB p_d.Loose), vb p_d.Down])] Q3 ?_
 refine sg ?_
 refine wT [(0, .s (mC p_disks)), (1, vi p_s), (5, .b 5 0)] [(5, .box [.s (mB p_d.Synced), .s (mB p_d.Loose), vb p_d.Down])] Q3 J1 rfl ?_
 refine sg ?_
 obtain ⟨hc1, h⟩ := chk_some h
 refine Or.inr ⟨rowsLen_map (f := c_api_Disk) (n := 3) (fun _ => rfl) p_disks, app_b2 (f := c_api_Disk) (l := ([] : List api_Disk)) (l' := p_disks) hc1, _, (List.map_append (f := c_api_Disk) (l₁ := ([] : List api_Disk)) (l₂ := p_disks)).symm, ?_⟩
 refine wT [(1, vi p_s), (5, .b 5 0), (7, .o 8)] [(5, .box [.s (mB p_d.Synced), .s (mB p_d.Loose), vb p_d.Down]), (8, .own 55 3 (mC (([] : List api_Disk) ++ p_disks)))] Q3 J2 rfl ?_
 refine sg ?_
 obtain ⟨x1, hx1, h⟩ := bindS h
 refine ⟨_, rfl, _, idx_nat hx1, idx_ltm hx1, _, idx_row hx1, rfl, _, rfl, _, set_row (f := c_api_Disk) (x := p_d), ?_⟩
 refine wT [(7, .o 8)] [(8, .own 55 3 (mC ((([] : List api_Disk) ++ p_disks).set p_s.toNat p_d)))] Q1 J1 rfl ?_
 refine sg ?_
 refine wT [(6, .o 8)] [(8, .own 55 3 (mC ((([] : List api_Disk) ++ p_disks).set p_s.toNat p_d)))] Q1 J1 rfl ?_
 refine rt ?_
 cases h
 exact (.inr ⟨_, rfl, rfl⟩)
theorem w_ref27N11 {p_disks} {p_s} {p_d} {r} (h : ref27_with p_disks p_s p_d = some r) : Pure Tryz.prog 60 [(.s (mC p_disks)), (vi p_s), (.a [(.s (mB p_d.Synced)), (.s (mB p_d.Loose)), (vb p_d.Down)])] (.s (mC r)) := (wo_ref27N3 h).pure
theorem w_ref27N1 {p_disks} {p_j} {r} (h : ref27_Copy p_disks p_j = some r) : Pure Tryz.prog 28 [(.s (mC p_disks)), (.a [(vi p_j.Id), (vi p_j.Ver), (vi p_j.From), (vi p_j.To), (vi p_j.Have), (vi p_j.Left)])] (.t [(.s (mC r.1)), (vi r.2)]) := by
 refine po Tryz.tok 72 Tryz.func28 (by kernel_rfl) rfl rfl rfl ?_
 unfold ref27_Copy at h
 refine wE [(0, .s (mC p_disks)), (1, .a [vi p_j.Id, vi p_j.Ver, vi p_j.From, vi p_j.To, vi p_j.Have, vi p_j.Left])] Q2 ?_
 refine sg ?_
 refine wT [(0, .s (mC p_disks)), (3, .b 3 0)] [(3, .box [vi p_j.Id, vi p_j.Ver, vi p_j.From, vi p_j.To, vi p_j.Have, vi p_j.Left])] Q2 J1 rfl ?_
 refine sq ?_
 obtain ⟨v1, hv1, h⟩ := bindS h
 refine Ok.seqw ⟨Cat.tab [(0, .s (mC p_disks)), (3, .b 3 0), (21, vb v1)], [(3, .box [vi p_j.Id, vi p_j.Ver, vi p_j.From, vi p_j.To, vi p_j.Have, vi p_j.Left])]⟩ ?_ ?_
 ·refine rg ?_
  obtain ⟨x1, hx1, hv1⟩ := bindS hv1
  refine ⟨_, rfl, ?_⟩
  refine CallOk.call (w_ref27N10 hx1) (LeL.refl _) ?_
  obtain ⟨c1, hg1, hv1⟩ := bindS hv1
  refine Br.itf hg1 (fun hb hg1 => ?_) fun hb hg1 => ?_
  ·cases hg1
   cases hv1
   exact wt Q3 J1 rfl
  obtain ⟨x2, hx2, hg1⟩ := bindS hg1
  refine ⟨_, rfl, ?_⟩
  refine CallOk.call (w_ref27N10 hx2) (LeL.refl _) ?_
  cases hg1
  cases hv1
  exact wt Q3 J1 rfl
 refine cn 21 (v1) rfl h (fun hb h => ?_) fun hb h => ?_
 ·refine sg ?_
  refine wE [(4, .s (mC p_disks)), (5, vi (1))] Q2 ?_
  refine rt ?_
  cases h
  exact (Fz.t (.cons Fz.s (.cons Fz.v .nil)))
 refine sk ?_
 refine sq ?_
 refine Ok.draw2 (m := 12) (late := [10]) (MD := ⟨[]⟩) (CH := ⟨[]⟩) Tryz.tok Tryz.mixed (by kernel_rfl) ?_
 obtain ⟨x3, hx3, h⟩ := bindS h
 obtain ⟨x4, hx4, h⟩ := bindS h
 refine ⟨_, rfl, _, rfl, _, ⟨_, rfl, rfl⟩, _, ⟨_, idx_nat hx3, _, idx_row hx3, rfl⟩, _, ⟨_, rfl, rfl⟩, _, rfl, _, ⟨_, rfl, rfl⟩, _, ⟨_, .of_pure (w_ref25_Get hx4) (LeL.refl _), rfl⟩, _, rfl, _, rfl, _, rfl, Q0, ?_⟩
 refine ⟨_, rfl, ⟨⟨_, rfl, rfl⟩, Q0⟩, ?_⟩
 refine wT [(0, .s (mC p_disks)), (3, .b 3 0), (6, .b 6 0), (7, vi x4.2)] [(3, .box [vi p_j.Id, vi p_j.Ver, vi p_j.From, vi p_j.To, vi p_j.Have, vi p_j.Left]), (6, .box [vi x4.1.Id, vi x4.1.Ver, .s (mI x4.1.Data), .s (mU x4.1.Sums)])] Q4 J2 rfl ?_
 refine sq ?_
 refine sg ?_
 refine wT [(0, .s (mC p_disks)), (3, .b 3 0), (6, .b 6 0), (7, vi x4.2), (35, vb (x4.2 != 0))] [(3, .box [vi p_j.Id, vi p_j.Ver, vi p_j.From, vi p_j.To, vi p_j.Have, vi p_j.Left]), (6, .box [vi x4.1.Id, vi x4.1.Ver, .s (mI x4.1.Data), .s (mU x4.1.Sums)])] Q5 J2 rfl ?_
 refine cn 35 (x4.2 != 0) rfl h (fun hb h => ?_) fun hb h => ?_
 ·refine sg ?_
  refine wE [(4, .s (mC p_disks)), (5, vi x4.2)] Q2 ?_
  refine rt ?_
  cases h
  exact (Fz.t (.cons Fz.s (.cons Fz.v .nil)))
 refine sk ?_
 refine sq ?_
 refine sg ?_
 refine ⟨_, rfl, _, rfl, ?_⟩
 refine wT [(0, .s (mC p_disks)), (3, .b 3 0), (6, .b 6 0), (42, vb (x4.1.Ver != p_j.Ver))] [(3, .box [vi p_j.Id, vi p_j.Ver, vi p_j.From, vi p_j.To, vi p_j.Have, vi p_j.Left]), (6, .box [vi x4.1.Id, vi x4.1.Ver, .s (mI x4.1.Data), .s (mU x4.1.Sums)])] Q4 J2 rfl ?_
 refine cn 42 (x4.1.Ver != p_j.Ver) rfl h (fun hb h => ?_) fun hb h => ?_
 ·refine sg ?_
  refine wE [(4, .s (mC p_disks)), (5, vi (250))] Q2 ?_
  refine rt ?_
  cases h
  exact (Fz.t (.cons Fz.s (.cons Fz.v .nil)))
 refine sk ?_
 refine sq ?_
 refine Ok.draw2 (m := 11) (late := [9]) (MD := ⟨[]⟩) (CH := ⟨[]⟩) Tryz.tok Tryz.mixed (by kernel_rfl) ?_
 obtain ⟨x5, hx5, h⟩ := bindS h
 obtain ⟨x6, hx6, h⟩ := bindS h
 refine ⟨_, rfl, _, rfl, _, ⟨_, rfl, rfl⟩, _, ⟨_, idx_nat hx5, _, idx_row hx5, rfl⟩, _, ⟨_, rfl, rfl⟩, _, ⟨_, rfl, rfl⟩, _, ⟨_, .of_pure (w_ref25_Put hx6) (LeL.refl _), rfl⟩, _, rfl, _, rfl, _, rfl, Q0, ?_⟩
 refine ⟨_, rfl, ⟨⟨_, rfl, rfl⟩, Q0⟩, ?_⟩
 refine wT [(0, .s (mC p_disks)), (3, .b 3 0), (8, .b 8 0), (9, vi x6.2)] [(3, .box [vi p_j.Id, vi p_j.Ver, vi p_j.From, vi p_j.To, vi p_j.Have, vi p_j.Left]), (8, .box [.s (mB x6.1.Synced), .s (mB x6.1.Loose), vb x6.1.Down])] Q4 J2 rfl ?_
 refine sq ?_
 refine sg ?_
 refine wT [(0, .s (mC p_disks)), (3, .b 3 0), (8, .b 8 0), (9, vi x6.2), (55, vb (x6.2 != 0))] [(3, .box [vi p_j.Id, vi p_j.Ver, vi p_j.From, vi p_j.To, vi p_j.Have, vi p_j.Left]), (8, .box [.s (mB x6.1.Synced), .s (mB x6.1.Loose), vb x6.1.Down])] Q5 J2 rfl ?_
 refine cn 55 (x6.2 != 0) rfl h (fun hb h => ?_) fun hb h => ?_
 ·refine sg ?_
  refine wE [(4, .s (mC p_disks)), (5, vi x6.2)] Q2 ?_
  refine rt ?_
  cases h
  exact (Fz.t (.cons Fz.s (.cons Fz.v .nil)))
 refine sk ?_
 refine sg ?_
 obtain ⟨x7, hx7, h⟩ := bindS h
 refine ⟨_, rfl, ?_⟩
 refine CallOk.call (w_ref04N4 hx7) (LeL.refl _) ?_
 refine ⟨_, rfl, ?_⟩
 refine wT [(0, .s (mC p_disks)), (3, .b 3 0), (8, .b 8 0), (9, vi x7.2)] [(3, .box [vi p_j.Id, vi p_j.Ver, vi p_j.From, vi p_j.To, vi p_j.Have, vi p_j.Left]), (8, .box [.s (mB x7.1.Synced), .s (mB x7.1.Loose), vb x7.1.Down])] Q4 J2 rfl ?_
 refine sq ?_
 refine sg ?_
 refine wT [(0, .s (mC p_disks)), (3, .b 3 0), (8, .b 8 0), (9, vi x7.2), (64, vb (x7.2 != 0))] [(3, .box [vi p_j.Id, vi p_j.Ver, vi p_j.From, vi p_j.To, vi p_j.Have, vi p_j.Left]), (8, .box [.s (mB x7.1.Synced), .s (mB x7.1.Loose), vb x7.1.Down])] Q5 J2 rfl ?_
 refine cn 64 (x7.2 != 0) rfl h (fun hb h => ?_) fun hb h => ?_
 ·refine sg ?_
  refine wE [(4, .s (mC p_disks)), (5, vi x7.2)] Q2 ?_
  refine rt ?_
  cases h
  exact (Fz.t (.cons Fz.s (.cons Fz.v .nil)))
 refine sk ?_
 refine sg ?_
 obtain ⟨x8, hx8, h⟩ := bindS h
 refine ⟨_, rfl, _, rfl, ?_⟩
 refine CallOk.call (w_ref27N11 hx8) (LeL.refl _) ?_
 refine wE [(4, .s (mC x8)), (5, vi (0))] Q2 ?_
 refine rt ?_
 cases h
 exact (Fz.t (.cons Fz.s (.cons Fz.v .nil)))
theorem w_ref28_Do {p_disks} {p_l} {r} (h : ref28_Do p_disks p_l = some r) : Pure Tryz.prog 9 [(.s (mC p_disks)), (.s (mA p_l))] (.t [(.s (mC r.1)), (.s (mA r.2))]) := by
 refine po Tryz.tok 38 Tryz.func9 (by kernel_rfl) rfl rfl rfl ?_
 unfold ref28_Do at h
 refine wE [(0, .s (mC p_disks)), (1, .s (mA p_l))] Q2 ?_
 refine sg ?_
 refine wE [(0, .s (mC p_disks)), (1, .s (mA p_l))] Q2 ?_
 refine sg ?_
 refine Or.inr ?_
 refine wT [(0, .s (mC p_disks)), (1, .s (mA p_l)), (6, .o 10)] [(10, .own 47 6 (mA ([] : List api_Job)))] Q3 J1 rfl ?_
 obtain ⟨v1, hv1, h⟩ := bindS h
 refine Ok.seqw ⟨Cat.tab [(0, .s (mC v1.1)), (6, .o 10)], [(10, .own 47 6 (mA v1.2))]⟩ ?_ ?_
 ·refine sg ?_
  refine wT [(0, .s (mC p_disks)), (1, .s (mA p_l)), (6, .o 10), (7, vi (0))] [(10, .own 47 6 (mA ([] : List api_Job)))] Q4 J1 rfl ?_
  refine bl ?_
  refine Ok.loop (fun (s1 : (List api_Disk) × Int × (List api_Job)) => ⟨Cat.tab [(0, .s (mC s1.1)), (1, .s (mA p_l)), (6, .o 10), (7, vi s1.2.1)], [(10, .own 47 6 (mA s1.2.2))]⟩) (ref28_Do_B1 p_l) (s0 := (p_disks, 0, ([] : List api_Job))) hv1 (wt Q4 ⟨⟨_, rfl, .refl _⟩, Q0⟩ rfl) ?_
  intro s1 y1 hB1 hy1
  unfold ref28_Do_B1 at hB1
  refine sq ?_
  refine sg ?_
  refine ⟨_, List.length_map _, fun _ => ?_⟩
  refine wT [(0, .s (mC s1.1)), (1, .s (mA p_l)), (6, .o 10), (7, vi s1.2.1), (14, vb (decide (s1.2.1 < (p_l.length : Int))))] [(10, .own 47 6 (mA s1.2.2))] Q5 J1 rfl ?_
  refine cn 14 (decide (s1.2.1 < (p_l.length : Int))) rfl hB1 (fun hb hB1 => ?_) fun hb hB1 => ?_
  ·refine sk ?_
   obtain ⟨v2, hv2, hB1⟩ := bindS hB1
   refine Ok.seqw ⟨Cat.tab [(0, .s (mC v2.1)), (1, .s (mA p_l)), (6, .o 10), (7, vi s1.2.1)], [(10, .own 47 6 (mA v2.2))]⟩ ?_ ?_
   ·refine bl ?_
    refine sg ?_
    obtain ⟨x1, hx1, hv2⟩ := bindS hv2
    obtain ⟨x2, hx2, hv2⟩ := bindS hv2
    refine ⟨_, idx_nat hx1, _, idx_row hx1, _, rfl, ?_⟩
    refine CallOk.call (w_ref27N1 hx2) (LeL.refl _) ?_
    refine wT [(0, .s (mC s1.1)), (1, .s (mA p_l)), (6, .o 10), (7, vi s1.2.1), (8, .s (mC x2.1)), (9, vi x2.2)] [(10, .own 47 6 (mA s1.2.2))] Q6 J1 rfl ?_
    refine sg ?_
    refine wT [(0, .s (mC s1.1)), (1, .s (mA p_l)), (6, .o 10), (7, vi s1.2.1), (8, .s (mC x2.1)), (27, vb (x2.2 == 0))] [(10, .own 47 6 (mA s1.2.2))] Q6 J1 rfl ?_
    refine cn 27 (x2.2 == 0) rfl hv2 (fun hb hv2 => ?_) fun hb hv2 => ?_
    ·refine sg ?_
     refine wT [(0, .s (mC x2.1)), (1, .s (mA p_l)), (6, .o 10), (7, vi s1.2.1)] [(10, .own 47 6 (mA s1.2.2))] Q4 J1 rfl ?_
     refine rg ?_
     obtain ⟨x3, hx3, hv2⟩ := bindS hv2
     obtain ⟨hc1, hv2⟩ := chk_some hv2
     refine ⟨_, idx_nat hx3, _, idx_row hx3, _, rfl, Or.inl ⟨rowsLen_map (f := c_api_Job) (n := 6) (fun _ => rfl) ([x3]), app_b2 (f := c_api_Job) (l := s1.2.2) (l' := [x3]) hc1, _, (List.map_append (f := c_api_Job) (l₁ := s1.2.2) (l₂ := [x3])).symm, ?_⟩⟩
     cases hv2
     exact wt Q4 J1 rfl
    refine sk ?_
    cases hv2
    exact wt Q4 J1 rfl
   refine rg ?_
   obtain ⟨hc2, hB1⟩ := chk_some hB1
   refine (Or.inl ⟨hc2, ?_⟩)
   exact ⟨_, sj hB1, wt Q4 J1 rfl⟩
  refine xt ?_
  have hB1 := out_ret hB1 hy1
  cases hB1
  exact wt Q2 J1 rfl
 refine sg ?_
 refine wT [(4, .s (mC v1.1)), (5, .o 10)] [(10, .own 47 6 (mA v1.2))] Q2 J1 rfl ?_
 refine rt ?_
 cases h
 exact (Fz.t (.cons Fz.s (.cons (Fz.o rfl) .nil)))
theorem w_ref28_May {p_j} {r} (h : ref28_May p_j = some r) : Pure Tryz.prog 29 [(.a [(vi p_j.Id), (vi p_j.Ver), (vi p_j.From), (vi p_j.To), (vi p_j.Have), (vi p_j.Left)])] (vb r) := by
 refine po Tryz.tok 68 Tryz.func29 (by kernel_rfl) rfl rfl rfl ?_
 unfold ref28_May at h
 refine wE [(0, .a [vi p_j.Id, vi p_j.Ver, vi p_j.From, vi p_j.To, vi p_j.Have, vi p_j.Left])] Q1 ?_
 refine sg ?_
 refine wT [(1, .b 1 0)] [(1, .box [vi p_j.Id, vi p_j.Ver, vi p_j.From, vi p_j.To, vi p_j.Have, vi p_j.Left])] Q1 J1 rfl ?_
 obtain ⟨v1, hv1, h⟩ := bindS h
 refine Ok.seqw ⟨Cat.tab [(2, vb v1)], []⟩ ?_ ?_
 ·refine rg ?_
  refine ⟨_, rfl, ?_⟩
  obtain ⟨c1, hg1, hv1⟩ := bindS hv1
  refine Br.ite hg1 (fun hb hg1 => ?_) fun hb hg1 => ?_
  ·refine ⟨_, rfl, ?_⟩
   cases hg1
   obtain ⟨c2, hg2, hv1⟩ := bindS hv1
   refine Br.ite hg2 (fun hb hg2 => ?_) fun hb hg2 => ?_
   ·refine ⟨_, rfl, ?_⟩
    cases hg2
    obtain ⟨c3, hg3, hv1⟩ := bindS hv1
    refine Br.ite hg3 (fun hb hg3 => ?_) fun hb hg3 => ?_
    ·refine ⟨_, rfl, ?_⟩
     cases hg3
     obtain ⟨c4, hg4, hv1⟩ := bindS hv1
     refine Br.ite hg4 (fun hb hg4 => ?_) fun hb hg4 => ?_
     ·refine ⟨_, rfl, ?_⟩
      cases hg4
      obtain ⟨c5, hg5, hv1⟩ := bindS hv1
      refine Br.ite hg5 (fun hb hg5 => ?_) fun hb hg5 => ?_
      ·refine ⟨_, rfl, ?_⟩
       cases hg5
       obtain ⟨c6, hg6, hv1⟩ := bindS hv1
       refine Br.ite hg6 (fun hb hg6 => ?_) fun hb hg6 => ?_
       ·refine ⟨_, rfl, ?_⟩
        cases hg6
        obtain ⟨c7, hg7, hv1⟩ := bindS hv1
        refine Br.ite hg7 (fun hb hg7 => ?_) fun hb hg7 => ?_
        ·refine ⟨_, rfl, ?_⟩
         cases hg7
         obtain ⟨c8, hg8, hv1⟩ := bindS hv1
         refine Br.ite hg8 (fun hb hg8 => ?_) fun hb hg8 => ?_
         ·refine ⟨_, rfl, _, rfl, ?_⟩
          cases hg8
          obtain ⟨c9, hg9, hv1⟩ := bindS hv1
          refine Br.ite hg9 (fun hb hg9 => ?_) fun hb hg9 => ?_
          ·refine ⟨_, rfl, ?_⟩
           cases hg9
           obtain ⟨c10, hg10, hv1⟩ := bindS hv1
           refine Br.ite hg10 (fun hb hg10 => ?_) fun hb hg10 => ?_
           ·refine ⟨_, rfl, ?_⟩
            cases hg10
            obtain ⟨c11, hg11, hv1⟩ := bindS hv1
            refine Br.ite hg11 (fun hb hg11 => ?_) fun hb hg11 => ?_
            ·refine ⟨_, rfl, ?_⟩
             cases hg11
             obtain ⟨c12, hg12, hv1⟩ := bindS hv1
             refine Br.ite hg12 (fun hb hg12 => ?_) fun hb hg12 => ?_
             ·refine ⟨_, rfl, ?_⟩
              cases hg12
              cases hv1
              exact wt Q1 Q0 rfl
             cases hg12
             cases hv1
             exact wt Q1 Q0 rfl
            cases hg11
            obtain ⟨c12, hg13, hv1⟩ := bindS hv1
            replace hg13 := iteF hg13
            cases hg13
            cases hv1
            exact wt Q1 Q0 rfl
           cases hg10
           obtain ⟨c11, hg14, hv1⟩ := bindS hv1
           replace hg14 := iteF hg14
           cases hg14
           obtain ⟨c12, hg15, hv1⟩ := bindS hv1
           replace hg15 := iteF hg15
           cases hg15
           cases hv1
           exact wt Q1 Q0 rfl
          cases hg9
          obtain ⟨c10, hg16, hv1⟩ := bindS hv1
          replace hg16 := iteF hg16
          cases hg16
          obtain ⟨c11, hg17, hv1⟩ := bindS hv1
          replace hg17 := iteF hg17
          cases hg17
          obtain ⟨c12, hg18, hv1⟩ := bindS hv1
          replace hg18 := iteF hg18
          cases hg18
          cases hv1
          exact wt Q1 Q0 rfl
         cases hg8
         obtain ⟨c9, hg19, hv1⟩ := bindS hv1
         replace hg19 := iteF hg19
         cases hg19
         obtain ⟨c10, hg20, hv1⟩ := bindS hv1
         replace hg20 := iteF hg20
         cases hg20
         obtain ⟨c11, hg21, hv1⟩ := bindS hv1
         replace hg21 := iteF hg21
         cases hg21
         obtain ⟨c12, hg22, hv1⟩ := bindS hv1
         replace hg22 := iteF hg22
         cases hg22
         cases hv1
         exact wt Q1 Q0 rfl
        cases hg7
        obtain ⟨c8, hg23, hv1⟩ := bindS hv1
        replace hg23 := iteF hg23
        cases hg23
        obtain ⟨c9, hg24, hv1⟩ := bindS hv1
        replace hg24 := iteF hg24
        cases hg24
        obtain ⟨c10, hg25, hv1⟩ := bindS hv1
        replace hg25 := iteF hg25
        cases hg25
        obtain ⟨c11, hg26, hv1⟩ := bindS hv1
        replace hg26 := iteF hg26
        cases hg26
        obtain ⟨c12, hg27, hv1⟩ := bindS hv1
        replace hg27 := iteF hg27
        cases hg27
        cases hv1
        exact wt Q1 Q0 rfl
       cases hg6
       obtain ⟨c7, hg28, hv1⟩ := bindS hv1
       replace hg28 := iteF hg28
       cases hg28
       obtain ⟨c8, hg29, hv1⟩ := bindS hv1
       replace hg29 := iteF hg29
       cases hg29
       obtain ⟨c9, hg30, hv1⟩ := bindS hv1
       replace hg30 := iteF hg30
       cases hg30
       obtain ⟨c10, hg31, hv1⟩ := bindS hv1
       replace hg31 := iteF hg31
       cases hg31
       obtain ⟨c11, hg32, hv1⟩ := bindS hv1
       replace hg32 := iteF hg32
       cases hg32
       obtain ⟨c12, hg33, hv1⟩ := bindS hv1
       replace hg33 := iteF hg33
       cases hg33
       cases hv1
       exact wt Q1 Q0 rfl
      cases hg5
      obtain ⟨c6, hg34, hv1⟩ := bindS hv1
      replace hg34 := iteF hg34
      cases hg34
      obtain ⟨c7, hg35, hv1⟩ := bindS hv1
      replace hg35 := iteF hg35
      cases hg35
      obtain ⟨c8, hg36, hv1⟩ := bindS hv1
      replace hg36 := iteF hg36
      cases hg36
      obtain ⟨c9, hg37, hv1⟩ := bindS hv1
      replace hg37 := iteF hg37
      cases hg37
      obtain ⟨c10, hg38, hv1⟩ := bindS hv1
      replace hg38 := iteF hg38
      cases hg38
      obtain ⟨c11, hg39, hv1⟩ := bindS hv1
      replace hg39 := iteF hg39
      cases hg39
      obtain ⟨c12, hg40, hv1⟩ := bindS hv1
      replace hg40 := iteF hg40
      cases hg40
      cases hv1
      exact wt Q1 Q0 rfl
     cases hg4
     obtain ⟨c5, hg41, hv1⟩ := bindS hv1
     replace hg41 := iteF hg41
     cases hg41
     obtain ⟨c6, hg42, hv1⟩ := bindS hv1
     replace hg42 := iteF hg42
     cases hg42
     obtain ⟨c7, hg43, hv1⟩ := bindS hv1
     replace hg43 := iteF hg43
     cases hg43
     obtain ⟨c8, hg44, hv1⟩ := bindS hv1
     replace hg44 := iteF hg44
     cases hg44
     obtain ⟨c9, hg45, hv1⟩ := bindS hv1
     replace hg45 := iteF hg45
     cases hg45
     obtain ⟨c10, hg46, hv1⟩ := bindS hv1
     replace hg46 := iteF hg46
     cases hg46
     obtain ⟨c11, hg47, hv1⟩ := bindS hv1
     replace hg47 := iteF hg47
     cases hg47
     obtain ⟨c12, hg48, hv1⟩ := bindS hv1
     replace hg48 := iteF hg48
     cases hg48
     cases hv1
     exact wt Q1 Q0 rfl
    cases hg3
    obtain ⟨c4, hg49, hv1⟩ := bindS hv1
    replace hg49 := iteF hg49
    cases hg49
    obtain ⟨c5, hg50, hv1⟩ := bindS hv1
    replace hg50 := iteF hg50
    cases hg50
    obtain ⟨c6, hg51, hv1⟩ := bindS hv1
    replace hg51 := iteF hg51
    cases hg51
    obtain ⟨c7, hg52, hv1⟩ := bindS hv1
    replace hg52 := iteF hg52
    cases hg52
    obtain ⟨c8, hg53, hv1⟩ := bindS hv1
    replace hg53 := iteF hg53
    cases hg53
    obtain ⟨c9, hg54, hv1⟩ := bindS hv1
    replace hg54 := iteF hg54
    cases hg54
    obtain ⟨c10, hg55, hv1⟩ := bindS hv1
    replace hg55 := iteF hg55
    cases hg55
    obtain ⟨c11, hg56, hv1⟩ := bindS hv1
    replace hg56 := iteF hg56
    cases hg56
    obtain ⟨c12, hg57, hv1⟩ := bindS hv1
    replace hg57 := iteF hg57
    cases hg57
    cases hv1
    exact wt Q1 Q0 rfl
   cases hg2
   obtain ⟨c3, hg58, hv1⟩ := bindS hv1
   replace hg58 := iteF hg58
   cases hg58
   obtain ⟨c4, hg59, hv1⟩ := bindS hv1
   replace hg59 := iteF hg59
   cases hg59
   obtain ⟨c5, hg60, hv1⟩ := bindS hv1
   replace hg60 := iteF hg60
   cases hg60
   obtain ⟨c6, hg61, hv1⟩ := bindS hv1
   replace hg61 := iteF hg61
   cases hg61
   obtain ⟨c7, hg62, hv1⟩ := bindS hv1
   replace hg62 := iteF hg62
   cases hg62
   obtain ⟨c8, hg63, hv1⟩ := bindS hv1
   replace hg63 := iteF hg63
   cases hg63
   obtain ⟨c9, hg64, hv1⟩ := bindS hv1
   replace hg64 := iteF hg64
   cases hg64
   obtain ⟨c10, hg65, hv1⟩ := bindS hv1
   replace hg65 := iteF hg65
   cases hg65
   obtain ⟨c11, hg66, hv1⟩ := bindS hv1
   replace hg66 := iteF hg66
   cases hg66
   obtain ⟨c12, hg67, hv1⟩ := bindS hv1
   replace hg67 := iteF hg67
   cases hg67
   cases hv1
   exact wt Q1 Q0 rfl
  cases hg1
  obtain ⟨c2, hg68, hv1⟩ := bindS hv1
  replace hg68 := iteF hg68
  cases hg68
  obtain ⟨c3, hg69, hv1⟩ := bindS hv1
  replace hg69 := iteF hg69
  cases hg69
  obtain ⟨c4, hg70, hv1⟩ := bindS hv1
  replace hg70 := iteF hg70
  cases hg70
  obtain ⟨c5, hg71, hv1⟩ := bindS hv1
  replace hg71 := iteF hg71
  cases hg71
  obtain ⟨c6, hg72, hv1⟩ := bindS hv1
  replace hg72 := iteF hg72
  cases hg72
  obtain ⟨c7, hg73, hv1⟩ := bindS hv1
  replace hg73 := iteF hg73
  cases hg73
  obtain ⟨c8, hg74, hv1⟩ := bindS hv1
  replace hg74 := iteF hg74
  cases hg74
  obtain ⟨c9, hg75, hv1⟩ := bindS hv1
  replace hg75 := iteF hg75
  cases hg75
  obtain ⟨c10, hg76, hv1⟩ := bindS hv1
  replace hg76 := iteF hg76
  cases hg76
  obtain ⟨c11, hg77, hv1⟩ := bindS hv1
  replace hg77 := iteF hg77
  cases hg77
  obtain ⟨c12, hg78, hv1⟩ := bindS hv1
  replace hg78 := iteF hg78
  cases hg78
  cases hv1
  exact wt Q1 Q0 rfl
 refine rt ?_
 cases h
 exact Fz.v
theorem w_ref28N6 {p_l} {p_j} {r} (h : ref28_alike p_l p_j = some r) : Pure Tryz.prog 30 [(.s (mA p_l)), (.a [(vi p_j.Id), (vi p_j.Ver), (vi p_j.From), (vi p_j.To), (vi p_j.Have), (vi p_j.Left)])] (vi r) := by
 refine po Tryz.tok 31 Tryz.func30 (by kernel_rfl) rfl rfl rfl ?_
 unfold ref28_alike at h
 refine wE [(0, .s (mA p_l)), (1, .a [vi p_j.Id, vi p_j.Ver, vi p_j.From, vi p_j.To, vi p_j.Have, vi p_j.Left])] Q2 ?_
 refine sg ?_
 refine wT [(0, .s (mA p_l)), (3, .b 3 0)] [(3, .box [vi p_j.Id, vi p_j.Ver, vi p_j.From, vi p_j.To, vi p_j.Have, vi p_j.Left])] Q2 J1 rfl ?_
 refine Ok.seqj (fun v1 => ⟨Cat.tab [], []⟩) (fun v1 => ref28N10 v1 = some r) ?_ ?_
 ·refine sg ?_
  refine wT [(0, .s (mA p_l)), (3, .b 3 0), (5, vi (0))] [(3, .box [vi p_j.Id, vi p_j.Ver, vi p_j.From, vi p_j.To, vi p_j.Have, vi p_j.Left])] Q3 J1 rfl ?_
  refine bl ?_
  refine Ok.loop (fun (s1 : Int) => ⟨Cat.tab [(0, .s (mA p_l)), (3, .b 3 0), (5, vi s1)], [(3, .box [vi p_j.Id, vi p_j.Ver, vi p_j.From, vi p_j.To, vi p_j.Have, vi p_j.Left])]⟩) (ref28N9 p_l p_j) (s0 := 0) h (wt Q3 ⟨⟨_, rfl, .refl _⟩, Q0⟩ rfl) ?_
  intro s1 y1 hB1 hy1
  unfold ref28N9 at hB1
  refine sq ?_
  refine sg ?_
  refine ⟨_, List.length_map _, fun _ => ?_⟩
  refine wT [(0, .s (mA p_l)), (3, .b 3 0), (5, vi s1), (9, vb (decide (s1 < (p_l.length : Int))))] [(3, .box [vi p_j.Id, vi p_j.Ver, vi p_j.From, vi p_j.To, vi p_j.Have, vi p_j.Left])] Q4 J1 rfl ?_
  refine cn 9 (decide (s1 < (p_l.length : Int))) rfl hB1 (fun hb hB1 => ?_) fun hb hB1 => ?_
  ·refine sk ?_
   refine sq ?_
   refine bl ?_
   obtain ⟨v2, hv2, hB1⟩ := bindS hB1
   refine Ok.seqw ⟨Cat.tab [(0, .s (mA p_l)), (3, .b 3 0), (5, vi s1), (29, vb v2)], [(3, .box [vi p_j.Id, vi p_j.Ver, vi p_j.From, vi p_j.To, vi p_j.Have, vi p_j.Left])]⟩ ?_ ?_
   ·refine Ok.draw (m := 18) (MD := ⟨[]⟩) (CH := ⟨[]⟩) Tryz.tok Tryz.mixed (by kernel_rfl) ?_
    obtain ⟨x1, hx1, hv2⟩ := bindS hv2
    refine ⟨_, rfl, _, rfl, _, ⟨_, idx_nat hx1, _, idx_row hx1, rfl⟩, _, rfl, _, ⟨_, rfl, rfl⟩, _, rfl, _, ⟨_, rfl, rfl⟩, _, rfl, _, rfl, ?_⟩
    obtain ⟨c1, hg1, hv2⟩ := bindS hv2
    refine Br.ite hg1 (fun hb hg1 => ?_) fun hb hg1 => ?_
    ·obtain ⟨x2, hx2, hg1⟩ := bindS hg1
     refine ⟨_, rfl, _, rfl, _, ⟨_, idx_nat hx2, _, idx_row hx2, rfl⟩, _, rfl, _, ⟨_, rfl, rfl⟩, _, rfl, _, ⟨_, rfl, rfl⟩, _, rfl, ?_⟩
     cases hg1
     refine ⟨_, rfl, ?_⟩
     refine ⟨Q0, ?_⟩
     cases hv2
     exact wt Q4 J1 rfl
    cases hg1
    refine ⟨_, rfl, ?_⟩
    refine ⟨Q0, ?_⟩
    cases hv2
    exact wt Q4 J1 rfl
   refine cn 29 (v2) rfl hB1 (fun hb hB1 => ?_) fun hb hB1 => ?_
   ·refine sg ?_
    refine wE [(4, vi s1)] Q1 ?_
    refine rt ?_
    have hB1 := out_ret hB1 hy1
    cases hB1
    exact Fz.v
   refine sk ?_
   refine rg ?_
   obtain ⟨hc1, hB1⟩ := chk_some hB1
   refine (Or.inl ⟨hc1, ?_⟩)
   exact ⟨_, sj hB1, wt Q3 J1 rfl⟩
  refine xt ?_
  have hB1 := out_ret hB1 hy1
  exact ⟨_, hB1, wt Q0 Q0 rfl⟩
 intro v1 h
 unfold ref28N10 at h
 refine sg ?_
 refine wE [(4, vi (-1))] Q1 ?_
 refine rt ?_
 cases h
 exact Fz.v
theorem w_ref28N1 {p_a} {p_b} {r} (h : ref28_Ahead p_a p_b = some r) : Pure Tryz.prog 31 [(.a [(vi p_a.Id), (vi p_a.Ver), (vi p_a.From), (vi p_a.To), (vi p_a.Have), (vi p_a.Left)]), (.a [(vi p_b.Id), (vi p_b.Ver), (vi p_b.From), (vi p_b.To), (vi p_b.Have), (vi p_b.Left)])] (vb r) := by
 refine po Tryz.tok 30 Tryz.func31 (by kernel_rfl) rfl rfl rfl ?_
 unfold ref28_Ahead at h
 refine wE [(0, .a [vi p_a.Id, vi p_a.Ver, vi p_a.From, vi p_a.To, vi p_a.Have, vi p_a.Left]), (1, .a [vi p_b.Id, vi p_b.Ver, vi p_b.From, vi p_b.To, vi p_b.Have, vi p_b.Left])] Q2 ?_
 refine sg ?_
 refine wT [(2, .b 2 0), (3, .b 3 0)] [(2, .box [vi p_a.Id, vi p_a.Ver, vi p_a.From, vi p_a.To, vi p_a.Have, vi p_a.Left]), (3, .box [vi p_b.Id, vi p_b.Ver, vi p_b.From, vi p_b.To, vi p_b.Have, vi p_b.Left])] Q2 J2 rfl ?_
 refine sq ?_
 refine sg ?_
 refine ⟨_, rfl, _, rfl, ?_⟩
 refine wT [(2, .b 2 0), (3, .b 3 0), (9, vb (p_a.Have != p_b.Have))] [(2, .box [vi p_a.Id, vi p_a.Ver, vi p_a.From, vi p_a.To, vi p_a.Have, vi p_a.Left]), (3, .box [vi p_b.Id, vi p_b.Ver, vi p_b.From, vi p_b.To, vi p_b.Have, vi p_b.Left])] Q3 J2 rfl ?_
 refine cn 9 (p_a.Have != p_b.Have) rfl h (fun hb h => ?_) fun hb h => ?_
 ·refine sg ?_
  refine ⟨_, rfl, _, rfl, ?_⟩
  refine wE [(4, vb (decide (p_a.Have < p_b.Have)))] Q1 ?_
  refine rt ?_
  cases h
  exact Fz.v
 refine sk ?_
 refine sq ?_
 refine sg ?_
 refine ⟨_, rfl, _, rfl, ?_⟩
 refine wT [(2, .b 2 0), (3, .b 3 0), (19, vb (p_a.Id != p_b.Id))] [(2, .box [vi p_a.Id, vi p_a.Ver, vi p_a.From, vi p_a.To, vi p_a.Have, vi p_a.Left]), (3, .box [vi p_b.Id, vi p_b.Ver, vi p_b.From, vi p_b.To, vi p_b.Have, vi p_b.Left])] Q3 J2 rfl ?_
 refine cn 19 (p_a.Id != p_b.Id) rfl h (fun hb h => ?_) fun hb h => ?_
 ·refine sg ?_
  refine ⟨_, rfl, _, rfl, ?_⟩
  refine wE [(4, vb (decide (p_a.Id < p_b.Id)))] Q1 ?_
  refine rt ?_
  cases h
  exact Fz.v
 refine sk ?_
 refine sg ?_
 refine ⟨_, rfl, _, rfl, ?_⟩
 refine wE [(4, vb (decide (p_a.To < p_b.To)))] Q1 ?_
 refine rt ?_
 cases h
 exact Fz.v
theorem w_ref28N2 {p_l} {r} (h : ref28_Order p_l = some r) : Pure Tryz.prog 10 [(.s (mA p_l))] (.s (mA r)) := by
 refine po Tryz.tok 65 Tryz.func10 (by kernel_rfl) rfl rfl rfl ?_
 unfold ref28_Order at h
 refine wE [(0, .s (mA p_l))] Q1 ?_
 refine sg ?_
 refine wE [(0, .s (mA p_l))] Q1 ?_
 refine sg ?_
 refine Or.inl ?_
 refine wE [(0, .s (mA p_l)), (3, .s (mA ([] : List api_Job)))] Q2 ?_
 obtain ⟨v1, hv1, h⟩ := bindS h
 refine Ok.seqw ⟨Cat.tab [(3, .s (mA v1))], []⟩ ?_ ?_
 ·refine sg ?_
  refine wE [(0, .s (mA p_l)), (3, .s (mA ([] : List api_Job))), (4, vi (0))] Q3 ?_
  refine bl ?_
  refine Ok.loop (fun (s1 : (List api_Job) × Int) => ⟨Cat.tab [(0, .s (mA p_l)), (3, .s (mA s1.1)), (4, vi s1.2)], []⟩) (ref28N1 p_l) (s0 := (([] : List api_Job), 0)) hv1 (wt Q3 Q0 rfl) ?_
  intro s1 y1 hB1 hy1
  unfold ref28N1 at hB1
  refine sq ?_
  refine sg ?_
  refine ⟨_, List.length_map _, fun _ => ?_⟩
  refine wE [(0, .s (mA p_l)), (3, .s (mA s1.1)), (4, vi s1.2), (11, vb (decide (s1.2 < (p_l.length : Int))))] Q4 ?_
  refine cn 11 (decide (s1.2 < (p_l.length : Int))) rfl hB1 (fun hb hB1 => ?_) fun hb hB1 => ?_
  ·refine sk ?_
   obtain ⟨v2, hv2, hB1⟩ := bindS hB1
   refine Ok.seqw ⟨Cat.tab [(0, .s (mA p_l)), (3, .s (mA v2)), (4, vi s1.2)], []⟩ ?_ ?_
   ·refine bl ?_
    refine sq ?_
    obtain ⟨v3, hv3, hv2⟩ := bindS hv2
    refine Ok.seqw ⟨Cat.tab [(0, .s (mA p_l)), (3, .s (mA s1.1)), (4, vi s1.2), (28, vb v3)], []⟩ ?_ ?_
    ·refine rg ?_
     obtain ⟨x1, hx1, hv3⟩ := bindS hv3
     obtain ⟨x2, hx2, hv3⟩ := bindS hv3
     refine ⟨_, idx_nat hx1, _, idx_row hx1, _, rfl, ?_⟩
     refine CallOk.call (w_ref28_May hx2) (LeL.refl _) ?_
     obtain ⟨c1, hg1, hv3⟩ := bindS hv3
     refine Br.itf hg1 (fun hb hg1 => ?_) fun hb hg1 => ?_
     ·cases hg1
      cases hv3
      exact wt Q4 Q0 rfl
     obtain ⟨x3, hx3, hg1⟩ := bindS hg1
     obtain ⟨x4, hx4, hg1⟩ := bindS hg1
     refine ⟨_, idx_nat hx3, _, idx_row hx3, _, rfl, ?_⟩
     refine CallOk.call (w_ref28N6 hx4) (LeL.refl _) ?_
     cases hg1
     cases hv3
     exact wt Q4 Q0 rfl
    refine cn 28 (v3) rfl hv2 (fun hb hv2 => ?_) fun hb hv2 => ?_
    ·refine xt ?_
     cases hv2
     exact wt Q3 Q0 rfl
    refine sk ?_
    refine sg ?_
    refine wE [(0, .s (mA p_l)), (3, .s (mA s1.1)), (4, vi s1.2), (5, vi (0))] Q4 ?_
    obtain ⟨v4, hv4, hv2⟩ := bindS hv2
    refine Ok.seqw ⟨Cat.tab [(0, .s (mA p_l)), (3, .s (mA s1.1)), (4, vi s1.2), (5, vi v4)], []⟩ ?_ ?_
    ·refine bl ?_
     refine Ok.loop (fun (s2 : Int) => ⟨Cat.tab [(0, .s (mA p_l)), (3, .s (mA s1.1)), (4, vi s1.2), (5, vi s2)], []⟩) (ref28N2 s1 p_l) (s0 := 0) hv4 (wt Q4 Q0 rfl) ?_
     intro s2 y2 hB2 hy2
     unfold ref28N2 at hB2
     refine sq ?_
     obtain ⟨v5, hv5, hB2⟩ := bindS hB2
     refine Ok.seqw ⟨Cat.tab [(0, .s (mA p_l)), (3, .s (mA s1.1)), (4, vi s1.2), (5, vi s2), (43, vb v5)], []⟩ ?_ ?_
     ·refine Ok.draw (m := 15) (MD := ⟨[]⟩) (CH := ⟨[]⟩) Tryz.tok Tryz.mixed (by kernel_rfl) ?_
      refine ⟨_, rfl, _, rfl, _, ⟨_, List.length_map _, fun _ => rfl⟩, _, rfl, _, rfl, ?_⟩
      obtain ⟨c2, hg2, hv5⟩ := bindS hv5
      refine Br.ite hg2 (fun hb hg2 => ?_) fun hb hg2 => ?_
      ·obtain ⟨x5, hx5, hg2⟩ := bindS hg2
       obtain ⟨x6, hx6, hg2⟩ := bindS hg2
       obtain ⟨x7, hx7, hg2⟩ := bindS hg2
       refine ⟨_, rfl, _, rfl, _, ⟨_, idx_nat hx5, _, idx_row hx5, rfl⟩, _, ⟨_, rfl, rfl⟩, _, rfl, _, rfl, _, ⟨_, idx_nat hx6, _, idx_row hx6, rfl⟩, _, ⟨_, rfl, rfl⟩, _, ⟨_, .of_pure (w_ref28N1 hx7) (LeL.refl _), rfl⟩, ?_⟩
       cases hg2
       refine ⟨_, rfl, ?_⟩
       refine ⟨Q0, ?_⟩
       cases hv5
       exact wt Q5 Q0 rfl
      cases hg2
      refine ⟨_, rfl, ?_⟩
      refine ⟨Q0, ?_⟩
      cases hv5
      exact wt Q5 Q0 rfl
     refine cn 43 (v5) rfl hB2 (fun hb hB2 => ?_) fun hb hB2 => ?_
     ·refine sk ?_
      refine bl ?_
      refine rg ?_
      obtain ⟨hc1, hB2⟩ := chk_some hB2
      refine (Or.inl ⟨hc1, ?_⟩)
      exact ⟨_, sj hB2, wt Q4 Q0 rfl⟩
     refine xt ?_
     have hB2 := out_ret hB2 hy2
     cases hB2
     exact wt Q4 Q0 rfl
    refine sg ?_
    obtain ⟨hc2, hv2⟩ := chk_some hv2
    obtain ⟨hc3, hv2⟩ := chk_some hv2
    refine Or.inr ⟨_, sl_nat hc2.1, Nat.zero_le _, sl_len hc2, rowsK (f := c_api_Job) (K := 6) (fun _ => rfl) s1.1, _, sl_take _ _ _, rowsLen_map (f := c_api_Job) (n := 6) (fun _ => rfl) (s1.1.take v4.toNat), app_b2 (f := c_api_Job) (l := ([] : List api_Job)) (l' := s1.1.take v4.toNat) hc3, _, (List.map_append (f := c_api_Job) (l₁ := ([] : List api_Job)) (l₂ := s1.1.take v4.toNat)).symm, ?_⟩
    refine wT [(0, .s (mA p_l)), (3, .s (mA s1.1)), (4, vi s1.2), (5, vi v4), (6, .o 46)] [(46, .own 47 6 (mA (([] : List api_Job) ++ (s1.1.take v4.toNat))))] Q5 J1 rfl ?_
    refine sg ?_
    obtain ⟨x8, hx8, hv2⟩ := bindS hv2
    obtain ⟨hc4, hv2⟩ := chk_some hv2
    refine ⟨_, idx_nat hx8, _, idx_row hx8, _, rfl, Or.inl ⟨rowsLen_map (f := c_api_Job) (n := 6) (fun _ => rfl) ([x8]), app_b2 (f := c_api_Job) (l := ([] : List api_Job) ++ (s1.1.take v4.toNat)) (l' := [x8]) hc4, _, (List.map_append (f := c_api_Job) (l₁ := ([] : List api_Job) ++ (s1.1.take v4.toNat)) (l₂ := [x8])).symm, ?_⟩⟩
    refine wT [(0, .s (mA p_l)), (3, .s (mA s1.1)), (4, vi s1.2), (5, vi v4), (6, .o 46)] [(46, .own 47 6 (mA ((([] : List api_Job) ++ (s1.1.take v4.toNat)) ++ [x8])))] Q5 J1 rfl ?_
    refine sg ?_
    obtain ⟨hc5, hv2⟩ := chk_some hv2
    obtain ⟨hc6, hv2⟩ := chk_some hv2
    refine ⟨_, sl_nat hc5.1, sl_len hc5, Nat.le_refl _, rowsK (f := c_api_Job) (K := 6) (fun _ => rfl) s1.1, _, sl_drop _ _ _, rowsLen_map (f := c_api_Job) (n := 6) (fun _ => rfl) (s1.1.drop v4.toNat), app_b2 (f := c_api_Job) (l := (([] : List api_Job) ++ (s1.1.take v4.toNat)) ++ [x8]) (l' := s1.1.drop v4.toNat) hc6, _, (List.map_append (f := c_api_Job) (l₁ := (([] : List api_Job) ++ (s1.1.take v4.toNat)) ++ [x8]) (l₂ := s1.1.drop v4.toNat)).symm, ?_⟩
    refine wT [(0, .s (mA p_l)), (4, vi s1.2), (6, .o 46)] [(46, .own 47 6 (mA (((([] : List api_Job) ++ (s1.1.take v4.toNat)) ++ [x8]) ++ (s1.1.drop v4.toNat))))] Q3 J1 rfl ?_
    refine rg ?_
    cases hv2
    exact (Wk.freeze (id := 46) rfl).trans (wt Q3 Q0 rfl)
   refine rg ?_
   obtain ⟨hc7, hB1⟩ := chk_some hB1
   refine (Or.inl ⟨hc7, ?_⟩)
   exact ⟨_, sj hB1, wt Q3 Q0 rfl⟩
  refine xt ?_
  have hB1 := out_ret hB1 hy1
  cases hB1
  exact wt Q1 Q0 rfl
 refine sg ?_
 refine wE [(2, .s (mA v1))] Q1 ?_
 refine rt ?_
 cases h
 exact Fz.s
theorem wg_scrubN4 {p_disks} {p_c} {r} (h : scrub_all p_disks p_c = some r) : CallOk Tryz.prog 63 [(.s (mC p_disks)), (.a [(vi p_c.Id), (vi p_c.Ver), (.s (mU p_c.Servers))])] ⟨noSlots, []⟩ fun x s => x = (.c (.func 90) [] [(.b 3 0), (.b 2 0)]) ∧ s.H = [(3, .box [(vi p_c.Id), (vi p_c.Ver), (.s (mU p_c.Servers))]), (2, .box [(.s (mC p_disks))])] := by
 refine pgen_of_ok (n := 6) (c := Tryz.f63.body.getD .skip) Tryz.tok Tryz.func63 (by kernel_rfl) rfl rfl (Nat.le_of_ble_eq_true rfl) ?_
 unfold scrub_all at h
 refine wE [(0, .s (mC p_disks)), (1, .a [vi p_c.Id, vi p_c.Ver, .s (mU p_c.Servers)])] Q2 ?_
 refine sg ?_
 refine wT [(2, .b 2 0), (3, .b 3 0)] [(2, .box [.s (mC p_disks)]), (3, .box [vi p_c.Id, vi p_c.Ver, .s (mU p_c.Servers)])] Q2 J2 rfl ?_
 refine sg ?_
 refine wT [(4, .c (.func 90) [] [.b 3 0, .b 2 0])] [(3, .box [vi p_c.Id, vi p_c.Ver, .s (mU p_c.Servers)]), (2, .box [.s (mC p_disks)])] Q1 J2 rfl ?_
 refine rt ?_
 cases h
 exact wt Q1 J2 rfl
theorem w_scrubN7 {p_disks} {p_c} {p_s} {r} (h : scrubN16 p_disks p_c p_s = some r) : Pure Tryz.prog 91 [(.s (mC p_disks)), (.a [(vi p_c.Id), (vi p_c.Ver), (.s (mU p_c.Servers))]), (vi p_s)] (vi r) := by
 refine po Tryz.tok 48 Tryz.func91 (by kernel_rfl) rfl rfl rfl ?_
 unfold scrubN16 at h
 refine wE [(0, .s (mC p_disks)), (1, .a [vi p_c.Id, vi p_c.Ver, .s (mU p_c.Servers)]), (2, vi p_s)] Q3 ?_
 refine sg ?_
 refine wT [(0, .s (mC p_disks)), (2, vi p_s), (4, .b 4 0)] [(4, .box [vi p_c.Id, vi p_c.Ver, .s (mU p_c.Servers)])] Q3 J1 rfl ?_
 refine sq ?_
 obtain ⟨v1, hv1, h⟩ := bindS h
 refine Ok.seqw ⟨Cat.tab [(0, .s (mC p_disks)), (2, vi p_s), (4, .b 4 0), (19, vb v1)], [(4, .box [vi p_c.Id, vi p_c.Ver, .s (mU p_c.Servers)])]⟩ ?_ ?_
 ·refine rg ?_
  refine ⟨_, List.length_map _, fun _ => ?_⟩
  obtain ⟨c1, hg1, hv1⟩ := bindS hv1
  refine Br.itf hg1 (fun hb hg1 => ?_) fun hb hg1 => ?_
  ·cases hg1
   cases hv1
   exact wt Q4 J1 rfl
  obtain ⟨x1, hx1, hg1⟩ := bindS hg1
  refine ⟨_, idx_nat hx1, _, idx_row hx1, _, rfl, ?_⟩
  cases hg1
  cases hv1
  exact wt Q4 J1 rfl
 refine cn 19 (v1) rfl h (fun hb h => ?_) fun hb h => ?_
 ·refine sg ?_
  refine wE [(6, vi (1))] Q1 ?_
  refine rt ?_
  cases h
  exact Fz.v
 refine sk ?_
 refine sq ?_
 refine Ok.draw2 (m := 11) (late := [9]) (MD := ⟨[]⟩) (CH := ⟨[]⟩) Tryz.tok Tryz.mixed (by kernel_rfl) ?_
 obtain ⟨x2, hx2, h⟩ := bindS h
 obtain ⟨x3, hx3, h⟩ := bindS h
 refine ⟨_, rfl, _, rfl, _, ⟨_, idx_nat hx2, _, idx_row hx2, rfl⟩, _, ⟨_, rfl, rfl⟩, _, rfl, _, ⟨_, rfl, rfl⟩, _, ⟨_, .of_pure (w_chunk_Get hx3) (LeL.refl _), rfl⟩, _, rfl, _, rfl, _, rfl, Q0, ?_⟩
 refine ⟨_, rfl, ⟨⟨_, rfl, rfl⟩, Q0⟩, ?_⟩
 refine wT [(4, .b 4 0), (7, .b 7 0), (8, vi x3.2)] [(4, .box [vi p_c.Id, vi p_c.Ver, .s (mU p_c.Servers)]), (7, .box [vi x3.1.Id, vi x3.1.Ver, .s (mI x3.1.Data), .s (mU x3.1.Sums)])] Q3 J2 rfl ?_
 refine sq ?_
 refine bl ?_
 refine sg ?_
 refine wT [(4, .b 4 0), (7, .b 7 0), (8, vi x3.2), (30, vb (x3.2 == 41))] [(4, .box [vi p_c.Id, vi p_c.Ver, .s (mU p_c.Servers)]), (7, .box [vi x3.1.Id, vi x3.1.Ver, .s (mI x3.1.Data), .s (mU x3.1.Sums)])] Q4 J2 rfl ?_
 refine cn 30 (x3.2 == 41) rfl h (fun hb h => ?_) fun hb h => ?_
 ·refine sg ?_
  refine wE [(6, vi (2))] Q1 ?_
  refine rt ?_
  cases h
  exact Fz.v
 refine sg ?_
 refine wT [(4, .b 4 0), (7, .b 7 0), (33, vb (x3.2 != 0))] [(4, .box [vi p_c.Id, vi p_c.Ver, .s (mU p_c.Servers)]), (7, .box [vi x3.1.Id, vi x3.1.Ver, .s (mI x3.1.Data), .s (mU x3.1.Sums)])] Q3 J2 rfl ?_
 refine cn 33 (x3.2 != 0) rfl h (fun hb h => ?_) fun hb h => ?_
 ·refine sg ?_
  refine wE [(6, vi (3))] Q1 ?_
  refine rt ?_
  cases h
  exact Fz.v
 refine sg ?_
 refine ⟨_, rfl, _, rfl, ?_⟩
 refine wT [(4, .b 4 0), (7, .b 7 0), (36, vb (decide (x3.1.Ver < p_c.Ver)))] [(4, .box [vi p_c.Id, vi p_c.Ver, .s (mU p_c.Servers)]), (7, .box [vi x3.1.Id, vi x3.1.Ver, .s (mI x3.1.Data), .s (mU x3.1.Sums)])] Q3 J2 rfl ?_
 refine cn 36 (decide (x3.1.Ver < p_c.Ver)) rfl h (fun hb h => ?_) fun hb h => ?_
 ·refine sg ?_
  refine wE [(6, vi (4))] Q1 ?_
  refine rt ?_
  cases h
  exact Fz.v
 refine sg ?_
 refine ⟨_, rfl, _, rfl, ?_⟩
 refine wE [(42, vb (decide (x3.1.Ver > p_c.Ver)))] Q1 ?_
 refine cn 42 (decide (x3.1.Ver > p_c.Ver)) rfl h (fun hb h => ?_) fun hb h => ?_
 ·refine sg ?_
  refine wE [(6, vi (5))] Q1 ?_
  refine rt ?_
  cases h
  exact Fz.v
 refine sk ?_
 refine sg ?_
 refine wE [(6, vi (0))] Q1 ?_
 refine rt ?_
 cases h
 exact Fz.v
theorem wg_scrubN2 {l : Nat} {p_a1 : Int} {p_a2 : Int} {p_h2 : List Int} {r : (List Int)} (h : scrubN3 p_a1 p_a2 p_h2 = some r) : CallOk Tryz.prog (.y l) [(vi p_a1), (vi p_a2)] ⟨noSlots, (1000, .lp l .rdy Tryz.rf36_0 [(5, (.b 1001 0))]) :: [(1001, .box [(.o 1002)]), (1002, .own 3 1 (mU p_h2))]⟩ fun x s => x = .v (.bool (LS.isR .rdy)) ∧ s.H = (1000, .lp l .rdy Tryz.rf36_0 [(5, (.b 1001 0))]) :: [(1001, .box [(.o 999)]), (999, .own 3 1 (mU r))] := by
 letI : Rnds := Rnds.yes
 refine yield_of_ok (e0 := .rdy) (H1 := [(1001, .box [.o 999]), (999, .own 3 1 (mU r))]) (by kernel_rfl) (by kernel_rfl) rfl rfl rfl ?_
 unfold scrubN3 at h
 refine wT [(5, .b 1001 0), (11, vi p_a1), (12, vi p_a2)] [(1001, .box [.o 1002]), (1002, .own 3 1 (mU p_h2))] Q3 J2 rfl ?_
 refine sg ?_
 refine wT [(5, .b 1001 0), (6, vi p_a1), (12, vi p_a2)] [(1001, .box [.o 1002]), (1002, .own 3 1 (mU p_h2))] Q3 J2 rfl ?_
 refine rg ?_
 refine wT [(5, .b 1001 0), (6, vi p_a1), (7, vi p_a2)] [(1001, .box [.o 1002]), (1002, .own 3 1 (mU p_h2))] Q3 J2 rfl ?_
 refine bl ?_
 refine sg ?_
 refine wT [(5, .b 1001 0), (6, vi p_a1), (14, vb (p_a2 == 0))] [(1001, .box [.o 1002]), (1002, .own 3 1 (mU p_h2))] Q3 J2 rfl ?_
 refine cn 14 (p_a2 == 0) rfl h (fun hb h => ?_) fun hb h => ?_
 ·refine Ok.wk (Wk.mv (i := 1002) (d := 999) rfl rfl rfl) ?_
  refine rg ?_
  obtain ⟨hc1, h⟩ := chk_some h
  refine ⟨_, rfl, Or.inl ⟨rowsLen_map (f := Go.Cat.encI) (n := 1) (fun _ => rfl) ([p_a1]), app_b2 (f := Go.Cat.encI) (l := p_h2) (l' := [p_a1]) hc1, _, (List.map_append (f := Go.Cat.encI) (l₁ := p_h2) (l₂ := [p_a1])).symm, _, rfl, ?_⟩⟩
  cases h
  exact ⟨rfl, wt Q0 ⟨⟨_, rfl, .refl _⟩, ⟨_, rfl, .refl _⟩, Q0⟩ rfl⟩
 refine sk ?_
 cases h
 exact ⟨rfl, (Wk.mv (i := 1002) (d := 999) rfl rfl rfl).trans (wt Q0 ⟨⟨_, rfl, .refl _⟩, ⟨_, rfl, .refl _⟩, Q0⟩ rfl)⟩
theorem wg_scrubN5 {l : Nat} {p_b2 : api_Chain} {p_b3 : List api_Disk} {r : (List Int)} (h : scrub_all_1 p_b2 p_b3 = some r) : CallOk Tryz.prog 90 [(.c (.yield l) [] []), (.b 1002 0), (.b 1003 0)] ⟨noSlots, [(1000, .lp l .rdy Tryz.rf36_0 [(5, (.b 1001 0))]), (1001, .box [(.v (.slice none 0 0))]), (1002, .box [(vi p_b2.Id), (vi p_b2.Ver), (.s (mU p_b2.Servers))]), (1003, .box [(.s (mC p_b3))])]⟩ fun x s => x = (.t []) ∧ s.H = [(1000, .lp l .rdy Tryz.rf36_0 [(5, (.b 1001 0))]), (1001, .box [(.o 999)]), (1002, .box [(vi p_b2.Id), (vi p_b2.Ver), (.s (mU p_b2.Servers))]), (1003, .box [(.s (mC p_b3))]), (999, .own 3 1 (mU r))] := by
 refine pgen_of_ok (n := 22) (c := Tryz.f90.body.getD .skip) Tryz.tok Tryz.func90 (by kernel_rfl) rfl rfl (Nat.le_of_ble_eq_true rfl) ?_
 unfold scrub_all_1 at h
 refine wT [(0, .c (.yield l) [] []), (1, .b 1002 0), (2, .b 1003 0)] [(1000, .lp l .rdy Tryz.rf36_0 [(5, .b 1001 0)]), (1001, .box [.v (.slice none 0 0)]), (1002, .box [vi p_b2.Id, vi p_b2.Ver, .s (mU p_b2.Servers)]), (1003, .box [.s (mC p_b3)])] Q3 J4 rfl ?_
 refine sg ?_
 refine ⟨_, rfl, _, List.length_map _, fun _ => ?_⟩
 refine wT [(0, .c (.yield l) [] []), (1, .b 1002 0), (2, .b 1003 0), (7, .s (mU p_b2.Servers)), (8, vi (p_b2.Servers.length : Int)), (9, vi (0))] [(1000, .lp l .rdy Tryz.rf36_0 [(5, .b 1001 0)]), (1001, .box [.v (.slice none 0 0)]), (1002, .box [vi p_b2.Id, vi p_b2.Ver, .s (mU p_b2.Servers)]), (1003, .box [.s (mC p_b3)])] Q6 J4 rfl ?_
 refine bl ?_
 refine Ok.loop (fun (s1 : Int × (List Int)) => ⟨Cat.tab [(0, .c (.yield l) [] []), (1, .b 1002 0), (2, .b 1003 0), (7, .s (mU p_b2.Servers)), (8, vi (p_b2.Servers.length : Int)), (9, vi s1.1)], [(1000, .lp l .rdy Tryz.rf36_0 [(5, .b 1001 0)]), (1001, .box [.o 999]), (999, .own 3 1 (mU s1.2)), (1002, .box [vi p_b2.Id, vi p_b2.Ver, .s (mU p_b2.Servers)]), (1003, .box [.s (mC p_b3)])]⟩) (scrubN13 p_b2 p_b3) (s0 := (0, [])) h ((Wk.ownb (b := 1001) (q := 0) (id := 999) (E := 3) (K := 1) rfl rfl rfl).trans (wt Q6 ⟨⟨_, rfl, .refl _⟩, ⟨_, rfl, .refl _⟩, ⟨_, rfl, .refl _⟩, ⟨_, rfl, .refl _⟩, ⟨_, rfl, .refl _⟩, Q0⟩ rfl)) ?_
 intro s1 y1 hB1 hy1
 unfold scrubN13 at hB1
 refine sg ?_
 refine wT [(0, .c (.yield l) [] []), (1, .b 1002 0), (2, .b 1003 0), (7, .s (mU p_b2.Servers)), (8, vi (p_b2.Servers.length : Int)), (9, vi s1.1), (10, vb (decide (s1.1 < (p_b2.Servers.length : Int))))] [(1000, .lp l .rdy Tryz.rf36_0 [(5, .b 1001 0)]), (1001, .box [.o 999]), (999, .own 3 1 (mU s1.2)), (1002, .box [vi p_b2.Id, vi p_b2.Ver, .s (mU p_b2.Servers)]), (1003, .box [.s (mC p_b3)])] Q7 ⟨hr, J4⟩ rfl ?_
 refine sq ?_
 refine cn 10 (decide (s1.1 < (p_b2.Servers.length : Int))) rfl hB1 (fun hb hB1 => ?_) fun hb hB1 => ?_
 ·refine sk ?_
  refine sq ?_
  refine bl ?_
  refine sg ?_
  obtain ⟨x1, hx1, hB1⟩ := bindS hB1
  refine ⟨_, idx_nat hx1, _, idx_row hx1, _, rfl, ?_⟩
  refine wT [(0, .c (.yield l) [] []), (1, .b 1002 0), (2, .b 1003 0), (5, vi x1), (7, .s (mU p_b2.Servers)), (8, vi (p_b2.Servers.length : Int)), (9, vi s1.1)] [(1000, .lp l .rdy Tryz.rf36_0 [(5, .b 1001 0)]), (1001, .box [.o 999]), (999, .own 3 1 (mU s1.2)), (1002, .box [vi p_b2.Id, vi p_b2.Ver, .s (mU p_b2.Servers)]), (1003, .box [.s (mC p_b3)])] Q7 ⟨hr, J4⟩ rfl ?_
  refine sg ?_
  obtain ⟨x2, hx2, hB1⟩ := bindS hB1
  refine ⟨_, rfl, _, rfl, ?_⟩
  refine CallOk.call (w_scrubN7 hx2) (LeL.refl _) ?_
  obtain ⟨x3, hx3, hB1⟩ := bindS hB1
  refine CallOk.gen (m := [(1000, 1000), (1001, 1001), (1002, 999)]) (n := [(999, 999)]) (wg_scrubN2 hx3) (.cons (Ln.imm rfl) (.cons (Ln.imm rfl) (.nil))) ⟨⟨1000, _, rfl, rfl, .lp rfl ⟨rfl, Ln.b rfl, Q0⟩⟩, ⟨1001, _, rfl, rfl, .box (.cons (Ln.o rfl) (.nil))⟩, ⟨999, _, rfl, rfl, .refl rfl⟩, Q0⟩ rfl rfl rfl ?_
  refine wT [(0, .c (.yield l) [] []), (1, .b 1002 0), (2, .b 1003 0), (7, .s (mU p_b2.Servers)), (8, vi (p_b2.Servers.length : Int)), (9, vi s1.1), (20, vb (!true))] [(1000, .lp l .rdy Tryz.rf36_0 [(5, .b 1001 0)]), (1001, .box [.o 999]), (999, .own 3 1 (mU x3)), (1002, .box [vi p_b2.Id, vi p_b2.Ver, .s (mU p_b2.Servers)]), (1003, .box [.s (mC p_b3)])] Q7 ⟨hr, J4⟩ rfl ?_
  refine Ok.condF rfl ?_
  refine sk ?_
  refine rg ?_
  obtain ⟨hc1, hB1⟩ := chk_some hB1
  refine (Or.inl ⟨hc1, ?_⟩)
  exact ⟨_, sj hB1, wt Q6 ⟨hr, J4⟩ rfl⟩
 refine xt ?_
 have hB1 := out_ret hB1 hy1
 cases hB1
 exact wt Q1 ⟨hr, J4⟩ rfl
theorem wo_scrubN1 {p_disks} {p_c} {r} (h : scrubN2 p_disks p_c = some r) : POwn Tryz.prog 36 [(.s (mC p_disks)), (.a [(vi p_c.Id), (vi p_c.Ver), (.s (mU p_c.Servers))])] 3 1 (mU r) := by
 refine pw Tryz.tok 20 Tryz.func36 (by kernel_rfl) rfl rfl rfl ?_
 unfold scrubN2 at h
 refine wE [(0, .s (mC p_disks)), (1, .a [vi p_c.Id, vi p_c.Ver, .s (mU p_c.Servers)])] Q2 ?_
 refine sg ?_
 refine wT [(0, .s (mC p_disks)), (3, .b 3 0)] [(3, .box [vi p_c.Id, vi p_c.Ver, .s (mU p_c.Servers)])] Q2 J1 rfl ?_
 refine sg ?_
 refine wT [(0, .s (mC p_disks)), (3, .b 3 0), (5, .b 5 0)] [(3, .box [vi p_c.Id, vi p_c.Ver, .s (mU p_c.Servers)]), (5, .box [.v (.slice none 0 0)])] Q3 J2 rfl ?_
 refine sq ?_
 refine sg ?_
 obtain ⟨x1, hx1, h⟩ := bindS h
 refine ⟨_, rfl, ?_⟩
 refine CallOk.gen (m := []) (n := [(3, 999), (2, 998)]) (wg_scrubN4 hx1) (.cons (Ln.imm rfl) (.cons (Ln.imm rfl) (.nil))) Q0 rfl rfl rfl ?_
 refine wT [(5, .b 5 0), (10, .c (.func 90) [] [.b 999 0, .b 998 0])] [(5, .box [.v (.slice none 0 0)]), (999, .box [vi p_c.Id, vi p_c.Ver, .s (mU p_c.Servers)]), (998, .box [.s (mC p_disks)])] Q2 J3 rfl ?_
 refine bl ?_
 obtain ⟨x2, hx2, h⟩ := bindS h
 refine Ok.rangeFunc (lid := 997) (R0 := Tryz.rf36_0) (L := [(5, .b 5 0)]) (by kernel_rfl) rfl rfl Q1 (fun l => CallOk.gen (m := [(1000, 997), (1001, 5), (1002, 999), (1003, 998)]) (n := [(999, 996)]) (wg_scrubN5 hx2) (.cons (Ln.c .nil .nil) (.cons (Ln.b rfl) (.cons (Ln.b rfl) (.nil)))) ⟨⟨997, _, rfl, rfl, .lp rfl ⟨rfl, Ln.b rfl, Q0⟩⟩, ⟨5, _, rfl, rfl, .box (.cons (Ln.imm rfl) (.nil))⟩, ⟨999, _, rfl, rfl, .box (.cons (Ln.imm rfl) (.cons (Ln.imm rfl) (.cons (Ln.imm rfl) (.nil))))⟩, ⟨998, _, rfl, rfl, .box (.cons (Ln.imm rfl) (.nil))⟩, Q0⟩ rfl rfl rfl ⟨_, _, _, rfl, ?_⟩)
 refine wT [(5, .b 5 0)] [(5, .box [.o 996]), (996, .own 3 1 (mU x2))] Q1 J2 rfl ?_
 refine sg ?_
 refine ⟨_, rfl, ?_⟩
 refine wT [(4, .o 996)] [(996, .own 3 1 (mU x2))] Q1 J1 rfl ?_
 refine rt ?_
 cases h
 exact (.inr ⟨_, rfl, rfl⟩)
theorem w_scrubN2 {p_disks} {p_c} {r} (h : scrubN2 p_disks p_c = some r) : Pure Tryz.prog 36 [(.s (mC p_disks)), (.a [(vi p_c.Id), (vi p_c.Ver), (.s (mU p_c.Servers))])] (.s (mU r)) := (wo_scrubN1 h).pure
theorem wg_scrubN3 {l : Nat} {p_a1 : Int} {p_a2 : Int} {p_b1 : api_Chain} {p_h3 : List api_Find} {r : (List api_Find)} (h : scrubN4 p_a1 p_a2 p_b1 p_h3 = some r) : CallOk Tryz.prog (.y l) [(vi p_a1), (vi p_a2)] ⟨noSlots, (1000, .lp l .rdy Tryz.rf37_0 [(3, (.b 1001 0)), (5, (.b 1002 0))]) :: [(1001, .box [(vi p_b1.Id), (vi p_b1.Ver), (.s (mU p_b1.Servers))]), (1002, .box [(.o 1003)]), (1003, .own 68 3 (mE p_h3))]⟩ fun x s => x = .v (.bool (LS.isR .rdy)) ∧ s.H = (1000, .lp l .rdy Tryz.rf37_0 [(3, (.b 1001 0)), (5, (.b 1002 0))]) :: [(1001, .box [(vi p_b1.Id), (vi p_b1.Ver), (.s (mU p_b1.Servers))]), (1002, .box [(.o 999)]), (999, .own 68 3 (mE r))] := by
 letI : Rnds := Rnds.yes
 refine yield_of_ok (e0 := .rdy) (H1 := [(1001, .box [vi p_b1.Id, vi p_b1.Ver, .s (mU p_b1.Servers)]), (1002, .box [.o 999]), (999, .own 68 3 (mE r))]) (by kernel_rfl) (by kernel_rfl) rfl rfl rfl ?_
 unfold scrubN4 at h
 refine wT [(3, .b 1001 0), (5, .b 1002 0), (11, vi p_a1), (12, vi p_a2)] [(1001, .box [vi p_b1.Id, vi p_b1.Ver, .s (mU p_b1.Servers)]), (1002, .box [.o 1003]), (1003, .own 68 3 (mE p_h3))] Q4 J3 rfl ?_
 refine sg ?_
 refine wT [(3, .b 1001 0), (5, .b 1002 0), (6, vi p_a1), (12, vi p_a2)] [(1001, .box [vi p_b1.Id, vi p_b1.Ver, .s (mU p_b1.Servers)]), (1002, .box [.o 1003]), (1003, .own 68 3 (mE p_h3))] Q4 J3 rfl ?_
 refine rg ?_
 refine wT [(3, .b 1001 0), (5, .b 1002 0), (6, vi p_a1), (7, vi p_a2)] [(1001, .box [vi p_b1.Id, vi p_b1.Ver, .s (mU p_b1.Servers)]), (1002, .box [.o 1003]), (1003, .own 68 3 (mE p_h3))] Q4 J3 rfl ?_
 refine bl ?_
 refine sg ?_
 refine wT [(3, .b 1001 0), (5, .b 1002 0), (6, vi p_a1), (7, vi p_a2), (14, vb (p_a2 != 0))] [(1001, .box [vi p_b1.Id, vi p_b1.Ver, .s (mU p_b1.Servers)]), (1002, .box [.o 1003]), (1003, .own 68 3 (mE p_h3))] Q5 J3 rfl ?_
 refine cn 14 (p_a2 != 0) rfl h (fun hb h => ?_) fun hb h => ?_
 ·refine Ok.wk (Wk.mv (i := 1003) (d := 999) rfl rfl rfl) ?_
  refine rg ?_
  obtain ⟨hc1, h⟩ := chk_some h
  refine ⟨_, rfl, _, rfl, Or.inl ⟨rowsLen_map (f := c_api_Find) (n := 3) (fun _ => rfl) ([(⟨p_b1.Id, p_a1, p_a2⟩ : api_Find)]), app_b2 (f := c_api_Find) (l := p_h3) (l' := [(⟨p_b1.Id, p_a1, p_a2⟩ : api_Find)]) hc1, _, (List.map_append (f := c_api_Find) (l₁ := p_h3) (l₂ := [(⟨p_b1.Id, p_a1, p_a2⟩ : api_Find)])).symm, _, rfl, ?_⟩⟩
  cases h
  exact ⟨rfl, wt Q0 ⟨⟨_, rfl, .refl _⟩, ⟨_, rfl, .refl _⟩, ⟨_, rfl, .refl _⟩, Q0⟩ rfl⟩
 refine sk ?_
 cases h
 exact ⟨rfl, (Wk.mv (i := 1003) (d := 999) rfl rfl rfl).trans (wt Q0 ⟨⟨_, rfl, .refl _⟩, ⟨_, rfl, .refl _⟩, ⟨_, rfl, .refl _⟩, Q0⟩ rfl)⟩
theorem wg_scrubN6 {l : Nat} {p_b1 : api_Chain} {p_b3 : api_Chain} {p_b4 : List api_Disk} {r : (List api_Find)} (h : scrubN10 p_b1 p_b3 p_b4 = some r) : CallOk Tryz.prog 90 [(.c (.yield l) [] []), (.b 1003 0), (.b 1004 0)] ⟨noSlots, [(1000, .lp l .rdy Tryz.rf37_0 [(3, (.b 1001 0)), (5, (.b 1002 0))]), (1001, .box [(vi p_b1.Id), (vi p_b1.Ver), (.s (mU p_b1.Servers))]), (1002, .box [(.v (.slice none 0 0))]), (1003, .box [(vi p_b3.Id), (vi p_b3.Ver), (.s (mU p_b3.Servers))]), (1004, .box [(.s (mC p_b4))])]⟩ fun x s => x = (.t []) ∧ s.H = [(1000, .lp l .rdy Tryz.rf37_0 [(3, (.b 1001 0)), (5, (.b 1002 0))]), (1001, .box [(vi p_b1.Id), (vi p_b1.Ver), (.s (mU p_b1.Servers))]), (1002, .box [(.o 999)]), (1003, .box [(vi p_b3.Id), (vi p_b3.Ver), (.s (mU p_b3.Servers))]), (1004, .box [(.s (mC p_b4))]), (999, .own 68 3 (mE r))] := by
 refine pgen_of_ok (n := 22) (c := Tryz.f90.body.getD .skip) Tryz.tok Tryz.func90 (by kernel_rfl) rfl rfl (Nat.le_of_ble_eq_true rfl) ?_
 unfold scrubN10 at h
 refine wT [(0, .c (.yield l) [] []), (1, .b 1003 0), (2, .b 1004 0)] [(1000, .lp l .rdy Tryz.rf37_0 [(3, .b 1001 0), (5, .b 1002 0)]), (1001, .box [vi p_b1.Id, vi p_b1.Ver, .s (mU p_b1.Servers)]), (1002, .box [.v (.slice none 0 0)]), (1003, .box [vi p_b3.Id, vi p_b3.Ver, .s (mU p_b3.Servers)]), (1004, .box [.s (mC p_b4)])] Q3 ⟨hr, J4⟩ rfl ?_
 refine sg ?_
 refine ⟨_, rfl, _, List.length_map _, fun _ => ?_⟩
 refine wT [(0, .c (.yield l) [] []), (1, .b 1003 0), (2, .b 1004 0), (7, .s (mU p_b3.Servers)), (8, vi (p_b3.Servers.length : Int)), (9, vi (0))] [(1000, .lp l .rdy Tryz.rf37_0 [(3, .b 1001 0), (5, .b 1002 0)]), (1001, .box [vi p_b1.Id, vi p_b1.Ver, .s (mU p_b1.Servers)]), (1002, .box [.v (.slice none 0 0)]), (1003, .box [vi p_b3.Id, vi p_b3.Ver, .s (mU p_b3.Servers)]), (1004, .box [.s (mC p_b4)])] Q6 ⟨hr, J4⟩ rfl ?_
 refine bl ?_
 refine Ok.loop (fun (s1 : Int × (List api_Find)) => ⟨Cat.tab [(0, .c (.yield l) [] []), (1, .b 1003 0), (2, .b 1004 0), (7, .s (mU p_b3.Servers)), (8, vi (p_b3.Servers.length : Int)), (9, vi s1.1)], [(1000, .lp l .rdy Tryz.rf37_0 [(3, .b 1001 0), (5, .b 1002 0)]), (1001, .box [vi p_b1.Id, vi p_b1.Ver, .s (mU p_b1.Servers)]), (1002, .box [.o 999]), (999, .own 68 3 (mE s1.2)), (1003, .box [vi p_b3.Id, vi p_b3.Ver, .s (mU p_b3.Servers)]), (1004, .box [.s (mC p_b4)])]⟩) (scrubN11 p_b3 p_b4 p_b1) (s0 := (0, [])) h ((Wk.ownb (b := 1002) (q := 0) (id := 999) (E := 68) (K := 3) rfl rfl rfl).trans (wt Q6 ⟨⟨_, rfl, .refl _⟩, ⟨_, rfl, .refl _⟩, ⟨_, rfl, .refl _⟩, ⟨_, rfl, .refl _⟩, ⟨_, rfl, .refl _⟩, ⟨_, rfl, .refl _⟩, Q0⟩ rfl)) ?_
 intro s1 y1 hB1 hy1
 unfold scrubN11 at hB1
 refine sg ?_
 refine wT [(0, .c (.yield l) [] []), (1, .b 1003 0), (2, .b 1004 0), (7, .s (mU p_b3.Servers)), (8, vi (p_b3.Servers.length : Int)), (9, vi s1.1), (10, vb (decide (s1.1 < (p_b3.Servers.length : Int))))] [(1000, .lp l .rdy Tryz.rf37_0 [(3, .b 1001 0), (5, .b 1002 0)]), (1001, .box [vi p_b1.Id, vi p_b1.Ver, .s (mU p_b1.Servers)]), (1002, .box [.o 999]), (999, .own 68 3 (mE s1.2)), (1003, .box [vi p_b3.Id, vi p_b3.Ver, .s (mU p_b3.Servers)]), (1004, .box [.s (mC p_b4)])] Q7 ⟨hr, hr, J4⟩ rfl ?_
 refine sq ?_
 refine cn 10 (decide (s1.1 < (p_b3.Servers.length : Int))) rfl hB1 (fun hb hB1 => ?_) fun hb hB1 => ?_
 ·refine sk ?_
  refine sq ?_
  refine bl ?_
  refine sg ?_
  obtain ⟨x1, hx1, hB1⟩ := bindS hB1
  refine ⟨_, idx_nat hx1, _, idx_row hx1, _, rfl, ?_⟩
  refine wT [(0, .c (.yield l) [] []), (1, .b 1003 0), (2, .b 1004 0), (5, vi x1), (7, .s (mU p_b3.Servers)), (8, vi (p_b3.Servers.length : Int)), (9, vi s1.1)] [(1000, .lp l .rdy Tryz.rf37_0 [(3, .b 1001 0), (5, .b 1002 0)]), (1001, .box [vi p_b1.Id, vi p_b1.Ver, .s (mU p_b1.Servers)]), (1002, .box [.o 999]), (999, .own 68 3 (mE s1.2)), (1003, .box [vi p_b3.Id, vi p_b3.Ver, .s (mU p_b3.Servers)]), (1004, .box [.s (mC p_b4)])] Q7 ⟨hr, hr, J4⟩ rfl ?_
  refine sg ?_
  obtain ⟨x2, hx2, hB1⟩ := bindS hB1
  refine ⟨_, rfl, _, rfl, ?_⟩
  refine CallOk.call (w_scrubN7 hx2) (LeL.refl _) ?_
  obtain ⟨x3, hx3, hB1⟩ := bindS hB1
  refine CallOk.gen (m := [(1000, 1000), (1001, 1001), (1002, 1002), (1003, 999)]) (n := [(999, 999)]) (wg_scrubN3 hx3) (.cons (Ln.imm rfl) (.cons (Ln.imm rfl) (.nil))) ⟨⟨1000, _, rfl, rfl, .lp rfl ⟨rfl, Ln.b rfl, rfl, Ln.b rfl, Q0⟩⟩, ⟨1001, _, rfl, rfl, .box (.cons (Ln.imm rfl) (.cons (Ln.imm rfl) (.cons (Ln.imm rfl) (.nil))))⟩, ⟨1002, _, rfl, rfl, .box (.cons (Ln.o rfl) (.nil))⟩, ⟨999, _, rfl, rfl, .refl rfl⟩, Q0⟩ rfl rfl rfl ?_
  refine wT [(0, .c (.yield l) [] []), (1, .b 1003 0), (2, .b 1004 0), (7, .s (mU p_b3.Servers)), (8, vi (p_b3.Servers.length : Int)), (9, vi s1.1), (20, vb (!true))] [(1000, .lp l .rdy Tryz.rf37_0 [(3, .b 1001 0), (5, .b 1002 0)]), (1001, .box [vi p_b1.Id, vi p_b1.Ver, .s (mU p_b1.Servers)]), (1002, .box [.o 999]), (999, .own 68 3 (mE x3)), (1003, .box [vi p_b3.Id, vi p_b3.Ver, .s (mU p_b3.Servers)]), (1004, .box [.s (mC p_b4)])] Q7 ⟨hr, hr, J4⟩ rfl ?_
  refine Ok.condF rfl ?_
  refine sk ?_
  refine rg ?_
  obtain ⟨hc1, hB1⟩ := chk_some hB1
  refine (Or.inl ⟨hc1, ?_⟩)
  exact ⟨_, sj hB1, wt Q6 ⟨hr, hr, J4⟩ rfl⟩
 refine xt ?_
 have hB1 := out_ret hB1 hy1
 cases hB1
 exact wt Q1 ⟨hr, hr, J4⟩ rfl
theorem wo_scrubN2 {p_disks} {p_c} {r} (h : scrub_Look p_disks p_c = some r) : POwn Tryz.prog 37 [(.s (mC p_disks)), (.a [(vi p_c.Id), (vi p_c.Ver), (.s (mU p_c.Servers))])] 68 3 (mE r) := by
 refine pw Tryz.tok 24 Tryz.func37 (by kernel_rfl) rfl rfl rfl ?_
 unfold scrub_Look at h
 refine wE [(0, .s (mC p_disks)), (1, .a [vi p_c.Id, vi p_c.Ver, .s (mU p_c.Servers)])] Q2 ?_
 refine sg ?_
 refine wT [(0, .s (mC p_disks)), (3, .b 3 0)] [(3, .box [vi p_c.Id, vi p_c.Ver, .s (mU p_c.Servers)])] Q2 J1 rfl ?_
 refine sg ?_
 refine wT [(0, .s (mC p_disks)), (3, .b 3 0), (5, .b 5 0)] [(3, .box [vi p_c.Id, vi p_c.Ver, .s (mU p_c.Servers)]), (5, .box [.v (.slice none 0 0)])] Q3 J2 rfl ?_
 refine sq ?_
 refine sg ?_
 obtain ⟨x1, hx1, h⟩ := bindS h
 refine ⟨_, rfl, ?_⟩
 refine CallOk.gen (m := []) (n := [(3, 999), (2, 998)]) (wg_scrubN4 hx1) (.cons (Ln.imm rfl) (.cons (Ln.imm rfl) (.nil))) Q0 rfl rfl rfl ?_
 refine wT [(3, .b 3 0), (5, .b 5 0), (10, .c (.func 90) [] [.b 999 0, .b 998 0])] [(3, .box [vi p_c.Id, vi p_c.Ver, .s (mU p_c.Servers)]), (5, .box [.v (.slice none 0 0)]), (999, .box [vi p_c.Id, vi p_c.Ver, .s (mU p_c.Servers)]), (998, .box [.s (mC p_disks)])] Q3 J4 rfl ?_
 refine bl ?_
 obtain ⟨x2, hx2, h⟩ := bindS h
 refine Ok.rangeFunc (lid := 997) (R0 := Tryz.rf37_0) (L := [(3, .b 3 0), (5, .b 5 0)]) (by kernel_rfl) rfl rfl Q2 (fun l => CallOk.gen (m := [(1000, 997), (1001, 3), (1002, 5), (1003, 999), (1004, 998)]) (n := [(999, 996)]) (wg_scrubN6 hx2) (.cons (Ln.c .nil .nil) (.cons (Ln.b rfl) (.cons (Ln.b rfl) (.nil)))) ⟨⟨997, _, rfl, rfl, .lp rfl ⟨rfl, Ln.b rfl, rfl, Ln.b rfl, Q0⟩⟩, ⟨3, _, rfl, rfl, .box (.cons (Ln.imm rfl) (.cons (Ln.imm rfl) (.cons (Ln.imm rfl) (.nil))))⟩, ⟨5, _, rfl, rfl, .box (.cons (Ln.imm rfl) (.nil))⟩, ⟨999, _, rfl, rfl, .box (.cons (Ln.imm rfl) (.cons (Ln.imm rfl) (.cons (Ln.imm rfl) (.nil))))⟩, ⟨998, _, rfl, rfl, .box (.cons (Ln.imm rfl) (.nil))⟩, Q0⟩ rfl rfl rfl ⟨_, _, _, rfl, ?_⟩)
 refine wT [(5, .b 5 0)] [(5, .box [.o 996]), (996, .own 68 3 (mE x2))] Q1 J2 rfl ?_
 refine sg ?_
 refine ⟨_, rfl, ?_⟩
 refine wT [(4, .o 996)] [(996, .own 68 3 (mE x2))] Q1 J1 rfl ?_
 refine rt ?_
 cases h
 exact (.inr ⟨_, rfl, rfl⟩)
theorem w_scrubN4 {p_a} {p_b} {r} (h : scrubN5 p_a p_b = some r) : Pure Tryz.prog 39 [(.a [(vi p_a.Id), (vi p_a.Server), (vi p_a.What)]), (.a [(vi p_b.Id), (vi p_b.Server), (vi p_b.What)])] (vi r) := by
 refine po Tryz.tok 10 Tryz.func39 (by kernel_rfl) rfl rfl rfl ?_
 unfold scrubN5 at h
 refine wE [(0, .a [vi p_a.Id, vi p_a.Server, vi p_a.What]), (1, .a [vi p_b.Id, vi p_b.Server, vi p_b.What])] Q2 ?_
 refine sg ?_
 refine wT [(2, .b 2 0), (3, .b 3 0)] [(2, .box [vi p_a.Id, vi p_a.Server, vi p_a.What]), (3, .box [vi p_b.Id, vi p_b.Server, vi p_b.What])] Q2 J2 rfl ?_
 refine sg ?_
 obtain ⟨x1, hx1, h⟩ := bindS h
 refine ⟨_, rfl, _, rfl, ?_⟩
 refine CallOk.call (w_cmpN1 hx1) (LeL.refl _) ?_
 refine wE [(4, vi x1)] Q1 ?_
 refine rt ?_
 cases h
 exact Fz.v
theorem w_slicesN6 {p_s} {p_v} {r} (h : slicesN29 p_s p_v = some r) : Pure Tryz.prog 67 [(.s (mU p_s)), (vi p_v)] (vi r) := by
 refine po Tryz.tok 19 Tryz.func67 (by kernel_rfl) rfl rfl rfl ?_
 unfold slicesN29 at h
 refine wE [(0, .s (mU p_s)), (1, vi p_v)] Q2 ?_
 refine sg ?_
 refine wE [(0, .s (mU p_s)), (1, vi p_v)] Q2 ?_
 refine Ok.seqj (fun v1 => ⟨Cat.tab [], []⟩) (fun v1 => slicesN31 v1 = some r) ?_ ?_
 ·refine sg ?_
  refine ⟨_, List.length_map _, fun _ => ?_⟩
  refine wE [(0, .s (mU p_s)), (1, vi p_v), (7, vi (p_s.length : Int)), (8, vi (0))] Q4 ?_
  refine bl ?_
  refine Ok.loop (fun (s1 : Int) => ⟨Cat.tab [(0, .s (mU p_s)), (1, vi p_v), (7, vi (p_s.length : Int)), (8, vi s1)], []⟩) (slicesN30 p_s p_v) (s0 := 0) h (wt Q4 Q0 rfl) ?_
  intro s1 y1 hB1 hy1
  unfold slicesN30 at hB1
  refine sg ?_
  refine wE [(0, .s (mU p_s)), (1, vi p_v), (7, vi (p_s.length : Int)), (8, vi s1), (9, vb (decide (s1 < (p_s.length : Int))))] Q5 ?_
  refine sq ?_
  refine cn 9 (decide (s1 < (p_s.length : Int))) rfl hB1 (fun hb hB1 => ?_) fun hb hB1 => ?_
  ·refine sk ?_
   refine sq ?_
   refine bl ?_
   refine sg ?_
   refine wE [(0, .s (mU p_s)), (1, vi p_v), (5, vi s1), (7, vi (p_s.length : Int)), (8, vi s1)] Q5 ?_
   refine sg ?_
   obtain ⟨x1, hx1, hB1⟩ := bindS hB1
   refine ⟨_, idx_nat hx1, _, idx_row hx1, _, rfl, ?_⟩
   refine wE [(0, .s (mU p_s)), (1, vi p_v), (5, vi s1), (7, vi (p_s.length : Int)), (8, vi s1), (16, vb (p_v == x1))] Q6 ?_
   refine cn 16 (p_v == x1) rfl hB1 (fun hb hB1 => ?_) fun hb hB1 => ?_
   ·refine sg ?_
    refine wE [(4, vi s1)] Q1 ?_
    refine rt ?_
    have hB1 := out_ret hB1 hy1
    cases hB1
    exact Fz.v
   refine sk ?_
   refine rg ?_
   obtain ⟨hc1, hB1⟩ := chk_some hB1
   refine (Or.inl ⟨hc1, ?_⟩)
   exact ⟨_, sj hB1, wt Q4 Q0 rfl⟩
  refine xt ?_
  have hB1 := out_ret hB1 hy1
  exact ⟨_, hB1, wt Q0 Q0 rfl⟩
 intro v1 h
 unfold slicesN31 at h
 refine sg ?_
 refine wE [(4, vi (-1))] Q1 ?_
 refine rt ?_
 cases h
 exact Fz.v
theorem w_scrubN6 {p_x} {p_a1_0} {p_a1_1} {p_a1_2} {p_a2_0} {r} (h : scrubN15 p_x p_a1_0 p_a1_1 p_a1_2 p_a2_0 = some r) : Pure Tryz.prog 68 [(vi p_x), (.p [(vi p_a1_0), (vi p_a1_1), (.s (mU p_a1_2))]), (.p [(vi p_a2_0)])] (vb r) := by
 refine po Tryz.tok 11 Tryz.func68 (by kernel_rfl) rfl rfl rfl ?_
 unfold scrubN15 at h
 refine wE [(0, vi p_x), (1, .p [vi p_a1_0, vi p_a1_1, .s (mU p_a1_2)]), (2, .p [vi p_a2_0])] Q3 ?_
 refine sg ?_
 refine wE [(0, vi p_x), (1, .p [vi p_a1_0, vi p_a1_1, .s (mU p_a1_2)]), (2, .p [vi p_a2_0])] Q3 ?_
 refine sq ?_
 refine Ok.draw (m := 7) (MD := ⟨[]⟩) (CH := ⟨[]⟩) Tryz.tok Tryz.mixed (by kernel_rfl) ?_
 obtain ⟨x1, hx1, h⟩ := bindS h
 refine ⟨_, rfl, _, ⟨_, rfl, rfl⟩, _, rfl, _, ⟨_, .of_pure (w_slicesN6 hx1) (LeL.refl _), rfl⟩, _, ⟨_, rfl, rfl⟩, _, rfl, _, rfl, Q0, ?_⟩
 refine wE [(4, vb (decide (x1 > p_a2_0)))] Q1 ?_
 refine rt ?_
 cases h
 exact Fz.v
theorem w_slicesN5 {p_s} {p_f_c0} {p_f_c1} {r} (h : slicesN25 p_s p_f_c0 p_f_c1 = some r) : Pure Tryz.prog 69 [(.s (mU p_s)), (.c (.func 68) [] [(.p [(vi p_f_c0.Id), (vi p_f_c0.Ver), (.s (mU p_f_c0.Servers))]), (.p [(vi p_f_c1)])])] (vi r) := by
 refine po Tryz.tok 19 Tryz.func69 (by kernel_rfl) rfl rfl rfl ?_
 unfold slicesN25 at h
 refine wE [(0, .s (mU p_s)), (1, .c (.func 68) [] [.p [vi p_f_c0.Id, vi p_f_c0.Ver, .s (mU p_f_c0.Servers)], .p [vi p_f_c1]])] Q2 ?_
 refine sg ?_
 refine wE [(0, .s (mU p_s)), (1, .c (.func 68) [] [.p [vi p_f_c0.Id, vi p_f_c0.Ver, .s (mU p_f_c0.Servers)], .p [vi p_f_c1]])] Q2 ?_
 refine Ok.seqj (fun v1 => ⟨Cat.tab [], []⟩) (fun v1 => slicesN27 v1 = some r) ?_ ?_
 ·refine sg ?_
  refine ⟨_, List.length_map _, fun _ => ?_⟩
  refine wE [(0, .s (mU p_s)), (1, .c (.func 68) [] [.p [vi p_f_c0.Id, vi p_f_c0.Ver, .s (mU p_f_c0.Servers)], .p [vi p_f_c1]]), (7, vi (p_s.length : Int)), (8, vi (0))] Q4 ?_
  refine bl ?_
  refine Ok.loop (fun (s1 : Int) => ⟨Cat.tab [(0, .s (mU p_s)), (1, .c (.func 68) [] [.p [vi p_f_c0.Id, vi p_f_c0.Ver, .s (mU p_f_c0.Servers)], .p [vi p_f_c1]]), (7, vi (p_s.length : Int)), (8, vi s1)], []⟩) (slicesN26 p_s p_f_c0 p_f_c1) (s0 := 0) h (wt Q4 Q0 rfl) ?_
  intro s1 y1 hB1 hy1
  unfold slicesN26 at hB1
  refine sg ?_
  refine wE [(0, .s (mU p_s)), (1, .c (.func 68) [] [.p [vi p_f_c0.Id, vi p_f_c0.Ver, .s (mU p_f_c0.Servers)], .p [vi p_f_c1]]), (7, vi (p_s.length : Int)), (8, vi s1), (9, vb (decide (s1 < (p_s.length : Int))))] Q5 ?_
  refine sq ?_
  refine cn 9 (decide (s1 < (p_s.length : Int))) rfl hB1 (fun hb hB1 => ?_) fun hb hB1 => ?_
  ·refine sk ?_
   refine sq ?_
   refine bl ?_
   refine sg ?_
   refine wE [(0, .s (mU p_s)), (1, .c (.func 68) [] [.p [vi p_f_c0.Id, vi p_f_c0.Ver, .s (mU p_f_c0.Servers)], .p [vi p_f_c1]]), (5, vi s1), (7, vi (p_s.length : Int)), (8, vi s1)] Q5 ?_
   refine sg ?_
   obtain ⟨x1, hx1, hB1⟩ := bindS hB1
   obtain ⟨x2, hx2, hB1⟩ := bindS hB1
   refine ⟨_, idx_nat hx1, _, idx_row hx1, _, rfl, ?_⟩
   refine CallOk.call (w_scrubN6 hx2) (LeL.refl _) ?_
   refine wE [(0, .s (mU p_s)), (1, .c (.func 68) [] [.p [vi p_f_c0.Id, vi p_f_c0.Ver, .s (mU p_f_c0.Servers)], .p [vi p_f_c1]]), (5, vi s1), (7, vi (p_s.length : Int)), (8, vi s1), (16, vb x2)] Q6 ?_
   refine cn 16 (x2) rfl hB1 (fun hb hB1 => ?_) fun hb hB1 => ?_
   ·refine sg ?_
    refine wE [(4, vi s1)] Q1 ?_
    refine rt ?_
    have hB1 := out_ret hB1 hy1
    cases hB1
    exact Fz.v
   refine sk ?_
   refine rg ?_
   obtain ⟨hc1, hB1⟩ := chk_some hB1
   refine (Or.inl ⟨hc1, ?_⟩)
   exact ⟨_, sj hB1, wt Q4 Q0 rfl⟩
  refine xt ?_
  have hB1 := out_ret hB1 hy1
  exact ⟨_, hB1, wt Q0 Q0 rfl⟩
 intro v1 h
 unfold slicesN27 at h
 refine sg ?_
 refine wE [(4, vi (-1))] Q1 ?_
 refine rt ?_
 cases h
 exact Fz.v
end Go.Proofs
