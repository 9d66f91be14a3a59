/- The walks of this seat beside the plain programs, part 1. No condition. -/
import Derived.Test.YtcbpphgndncebabGreatXMendWholeEn
import Derived.Test.YtcbpphgndncebabGreatXMendWholeWk0
namespace Go.Proofs
set_option linter.all false
open Go Go.Cat
variable [M : Mono]
set_option maxRecDepth 100000
theorem w_slices_Reverse_api_Page_api_Page {self} {r} (h : slices_Reverse_api_Page_api_Page self = some r) : PChg Tryz.prog 141 [(.o 1000)] (.own 85 2 (mA self)) (fun x c => x = (.t []) ∧ c = .own 85 2 (mA r.2)) := by
 refine pchg_of_ok (n := 28) (c := Tryz.f141.body.getD .skip) Tryz.tok Tryz.func141 (by kernel_rfl) rfl rfl (Nat.le_of_ble_eq_true rfl) ?_
 unfold slices_Reverse_api_Page_api_Page at h
 refine wT [(0, .o 1000)] [(1000, .own 85 2 (mA self))] Q1 J1 rfl ?_
 refine sg ?_
 obtain ⟨hc1, h⟩ := chk_some h
 refine ⟨_, List.length_map _, fun _ => (Or.inl ⟨hc1, ?_⟩)⟩
 refine wT [(0, .o 1000), (2, vi (0)), (3, vi ((self.length : Int) - 1))] [(1000, .own 85 2 (mA self))] Q3 J1 rfl ?_
 refine bl ?_
 refine Ok.loop (fun (s1 : Int × Int × (List api_Page)) => ⟨Cat.tab [(0, .o 1000), (2, vi s1.1), (3, vi s1.2.1)], [(1000, .own 85 2 (mA s1.2.2))]⟩) (slices_Reverse_api_Page_api_Page_B1) (s0 := (0, (self.length : Int) - 1, self)) h (wt Q3 ⟨⟨_, rfl, .refl _⟩, Q0⟩ rfl) ?_
 intro s1 y1 hB1 hy1
 unfold slices_Reverse_api_Page_api_Page_B1 at hB1
 refine sq ?_
 refine sg ?_
 refine wT [(0, .o 1000), (2, vi s1.1), (3, vi s1.2.1), (9, vb (decide (s1.1 < s1.2.1)))] [(1000, .own 85 2 (mA s1.2.2))] Q4 J1 rfl ?_
 refine cn 9 (decide (s1.1 < s1.2.1)) rfl hB1 (fun hb hB1 => ?_) fun hb hB1 => ?_
 ·refine sk ?_
  refine sq ?_
  refine bl ?_
  refine Ok.draw2 (m := 13) (late := [2, 3]) (MD := ⟨[]⟩) (CH := ⟨[]⟩) Tryz.tok Tryz.mixed (by kernel_rfl) ?_
  obtain ⟨x1, hx1, hB1⟩ := bindS hB1
  obtain ⟨x2, hx2, hB1⟩ := bindS hB1
  obtain ⟨x3, hx3, hB1⟩ := bindS hB1
  refine ⟨_, rfl, _, rfl, _, rfl, _, rfl, _, rfl, _, rfl, _, ⟨_, idx_nat hx1, idx_ltm hx1, rfl⟩, _, ⟨_, idx_row hx1, rfl, _, rfl, rfl⟩, _, rfl, _, rfl, _, ⟨_, idx_nat hx2, idx_ltm hx2, rfl⟩, _, ⟨_, idx_row hx2, rfl, _, rfl, rfl⟩, _, ⟨_, idx_nat hx3, idx_ltm hx3, rfl⟩, Q0, ?_⟩
  obtain ⟨x4, hx4, hB1⟩ := bindS hB1
  refine ⟨_, idx_row hx3, rfl, _, rfl, _, set_row (f := c_api_Page) (x := x1), ⟨⟨_, rfl, rfl⟩, ⟨_, rfl, rfl⟩, Q0⟩, _, idx_nat hx4, idx_ltm hx4, _, idx_row hx4, rfl, _, rfl, _, set_row (f := c_api_Page) (x := x2), ?_⟩
  refine wT [(0, .o 1000), (2, vi s1.1), (3, vi s1.2.1)] [(1000, .own 85 2 (mA ((s1.2.2.set s1.1.toNat x1).set s1.2.1.toNat x2)))] Q3 J1 rfl ?_
  refine rg ?_
  obtain ⟨hc2, hB1⟩ := chk_some hB1
  obtain ⟨hc3, hB1⟩ := chk_some hB1
  refine (Or.inl ⟨hc2, (Or.inl ⟨hc3, ?_⟩)⟩)
  exact ⟨_, sj hB1, wt Q3 J1 rfl⟩
 refine xt ?_
 have hB1 := out_ret hB1 hy1
 cases hB1
 exact ⟨_, _, ⟨rfl, rfl⟩, rfl, rfl, (Fz.t .nil)⟩
theorem w_disk_Read_1 {p_p} {p_a1_0} {r} (h : disk_Read_1 p_p p_a1_0 = some r) : Pure Tryz.prog 143 [(.a [(vi p_p.At), (.s (mI p_p.Data))]), (.p [(vi p_a1_0)])] (vb r) := by
 refine po Tryz.tok 8 Tryz.func143 (by kernel_rfl) rfl rfl rfl ?_
 unfold disk_Read_1 at h
 refine wE [(0, .a [vi p_p.At, .s (mI p_p.Data)]), (1, .p [vi p_a1_0])] Q2 ?_
 refine sg ?_
 refine wT [(1, .p [vi p_a1_0]), (2, .b 2 0)] [(2, .box [vi p_p.At, .s (mI p_p.Data)])] Q2 J1 rfl ?_
 refine sg ?_
 refine ⟨_, rfl, _, rfl, ?_⟩
 refine wE [(3, vb (p_p.At == p_a1_0))] Q1 ?_
 refine rt ?_
 cases h
 exact Fz.v
theorem w_slices_IndexFunc_api_Page_api_Page__disk_Read_1 {p_s} {p_f_c0_0} {r} (h : slices_IndexFunc_api_Page_api_Page__disk_Read_1 p_s p_f_c0_0 = some r) : Pure Tryz.prog 166 [(.s (mA p_s)), (.c (.func 143) [] [(.p [(vi p_f_c0_0)])])] (vi r) := by
 refine po Tryz.tok 19 Tryz.func166 (by kernel_rfl) rfl rfl rfl ?_
 unfold slices_IndexFunc_api_Page_api_Page__disk_Read_1 at h
 refine wE [(0, .s (mA p_s)), (1, .c (.func 143) [] [.p [vi p_f_c0_0]])] Q2 ?_
 refine sg ?_
 refine wE [(0, .s (mA p_s)), (1, .c (.func 143) [] [.p [vi p_f_c0_0]])] Q2 ?_
 refine Ok.seqj (fun v1 => ⟨Cat.tab [], []⟩) (fun v1 => slices_IndexFunc_api_Page_api_Page__disk_Read_1_J1 v1 = some r) ?_ ?_
 ·refine sg ?_
  refine ⟨_, List.length_map _, fun _ => ?_⟩
  refine wE [(0, .s (mA p_s)), (1, .c (.func 143) [] [.p [vi p_f_c0_0]]), (7, vi (p_s.length : Int)), (8, vi (0))] Q4 ?_
  refine bl ?_
  refine Ok.loop (fun (s1 : Int) => ⟨Cat.tab [(0, .s (mA p_s)), (1, .c (.func 143) [] [.p [vi p_f_c0_0]]), (7, vi (p_s.length : Int)), (8, vi s1)], []⟩) (slices_IndexFunc_api_Page_api_Page__disk_Read_1_B1 p_s p_f_c0_0) (s0 := 0) h (wt Q4 Q0 rfl) ?_
  intro s1 y1 hB1 hy1
  unfold slices_IndexFunc_api_Page_api_Page__disk_Read_1_B1 at hB1
  refine sg ?_
  refine wE [(0, .s (mA p_s)), (1, .c (.func 143) [] [.p [vi p_f_c0_0]]), (7, vi (p_s.length : Int)), (8, vi s1), (9, vb (decide (s1 < (p_s.length : Int))))] Q5 ?_
  refine sq ?_
  refine cn 9 (decide (s1 < (p_s.length : Int))) rfl hB1 (fun hb hB1 => ?_) fun hb hB1 => ?_
  ·refine sk ?_
   refine sq ?_
   refine bl ?_
   refine sg ?_
   refine wE [(0, .s (mA p_s)), (1, .c (.func 143) [] [.p [vi p_f_c0_0]]), (5, vi s1), (7, vi (p_s.length : Int)), (8, vi s1)] Q5 ?_
   refine sg ?_
   obtain ⟨x1, hx1, hB1⟩ := bindS hB1
   obtain ⟨x2, hx2, hB1⟩ := bindS hB1
   refine ⟨_, idx_nat hx1, _, idx_row hx1, _, rfl, ?_⟩
   refine CallOk.call (w_disk_Read_1 hx2) (LeL.refl _) ?_
   refine wE [(0, .s (mA p_s)), (1, .c (.func 143) [] [.p [vi p_f_c0_0]]), (5, vi s1), (7, vi (p_s.length : Int)), (8, vi s1), (16, vb x2)] Q6 ?_
   refine cn 16 (x2) rfl hB1 (fun hb hB1 => ?_) fun hb hB1 => ?_
   ·refine sg ?_
    refine wE [(4, vi s1)] Q1 ?_
    refine rt ?_
    have hB1 := out_ret hB1 hy1
    cases hB1
    exact Fz.v
   refine sk ?_
   refine rg ?_
   obtain ⟨hc1, hB1⟩ := chk_some hB1
   refine (Or.inl ⟨hc1, ?_⟩)
   exact ⟨_, sj hB1, wt Q4 Q0 rfl⟩
  refine xt ?_
  have hB1 := out_ret hB1 hy1
  exact ⟨_, hB1, wt Q0 Q0 rfl⟩
 intro v1 h
 unfold slices_IndexFunc_api_Page_api_Page__disk_Read_1_J1 at h
 refine sg ?_
 refine wE [(4, vi (-1))] Q1 ?_
 refine rt ?_
 cases h
 exact Fz.v
theorem w_disk_find_api_Page__disk_Read_1 {p_l} {p_is_c0} {r} (h : disk_find_api_Page__disk_Read_1 p_l p_is_c0 = some r) : Pure Tryz.prog 142 [(.s (mA p_l)), (.c (.func 143) [] [(.p [(vi p_is_c0)])])] (vi r) := by
 refine po Tryz.tok 8 Tryz.func142 (by kernel_rfl) rfl rfl rfl ?_
 unfold disk_find_api_Page__disk_Read_1 at h
 refine wE [(0, .s (mA p_l)), (1, .c (.func 143) [] [.p [vi p_is_c0]])] Q2 ?_
 refine sg ?_
 refine wE [(0, .s (mA p_l)), (1, .c (.func 143) [] [.p [vi p_is_c0]])] Q2 ?_
 refine sg ?_
 obtain ⟨x1, hx1, h⟩ := bindS h
 refine CallOk.call (w_slices_IndexFunc_api_Page_api_Page__disk_Read_1 hx1) (LeL.refl _) ?_
 refine wE [(4, vi x1)] Q1 ?_
 refine rt ?_
 cases h
 exact Fz.v
theorem wo_bytes_Clone {p_b} {r} (h : bytes_Clone p_b = some r) : POwn Tryz.prog 134 [(.s (mI p_b))] 5 1 (mI r) := by
 refine pw Tryz.tok 8 Tryz.func134 (by kernel_rfl) rfl rfl rfl ?_
 unfold bytes_Clone at h
 refine wE [(0, .s (mI p_b))] Q1 ?_
 refine sg ?_
 refine wE [(0, .s (mI p_b))] Q1 ?_
 refine sq ?_
 refine sg ?_
 intro b1 hb1
 have h := anyOf_some h b1 (fun e => List.map_eq_nil_iff.1 (hb1 e))
 refine wE [(0, .s (mI p_b)), (4, vb b1)] Q2 ?_
 refine cn 4 (b1) rfl h (fun hb h => ?_) fun hb h => ?_
 ·refine sg ?_
  refine wE [(2, .v (.slice none 0 0))] Q1 ?_
  refine rt ?_
  cases h
  exact (.inl ⟨rfl, rfl⟩)
 refine sk ?_
 refine sg ?_
 obtain ⟨hc1, h⟩ := chk_some h
 refine Or.inr ⟨rowsLen_map (f := cU8) (n := 1) (fun _ => rfl) p_b, app_b2 (f := cU8) (l := ([] : List UInt8)) (l' := p_b) hc1, _, (List.map_append (f := cU8) (l₁ := ([] : List UInt8)) (l₂ := p_b)).symm, ?_⟩
 refine wT [(2, .o 5)] [(5, .own 5 1 (mI (([] : List UInt8) ++ p_b)))] Q1 J1 rfl ?_
 refine rt ?_
 cases h
 exact (.inr ⟨_, rfl, rfl⟩)
theorem w_bytes_Clone {p_b} {r} (h : bytes_Clone p_b = some r) : Pure Tryz.prog 134 [(.s (mI p_b))] (.s (mI r)) := (wo_bytes_Clone h).pure
theorem w_disk_Read {p_d} {p_at} {r} (h : disk_Read p_d p_at = some r) : Pure Tryz.prog 103 [(.a [(.s (mA p_d.Synced)), (.s (mA p_d.Loose)), (vb p_d.Down)]), (vi p_at)] (.t [(.s (mI r.1)), (vi r.2)]) := by
 refine po Tryz.tok 34 Tryz.func103 (by kernel_rfl) rfl rfl rfl ?_
 unfold disk_Read at h
 refine wE [(0, .a [.s (mA p_d.Synced), .s (mA p_d.Loose), vb p_d.Down]), (1, vi p_at)] Q2 ?_
 refine sg ?_
 refine wT [(2, .b 2 0), (3, .b 3 0)] [(2, .box [.s (mA p_d.Synced), .s (mA p_d.Loose), vb p_d.Down]), (3, .box [vi p_at])] Q2 J2 rfl ?_
 refine sq ?_
 refine bl ?_
 refine sg ?_
 refine ⟨_, rfl, ?_⟩
 refine wT [(2, .b 2 0), (3, .b 3 0), (8, vb p_d.Down)] [(2, .box [.s (mA p_d.Synced), .s (mA p_d.Loose), vb p_d.Down]), (3, .box [vi p_at])] Q3 J2 rfl ?_
 refine cn 8 (p_d.Down) rfl h (fun hb h => ?_) fun hb h => ?_
 ·refine sg ?_
  refine wE [(4, .v (.slice none 0 0)), (5, vi (40))] Q2 ?_
  refine rt ?_
  cases h
  exact (Fz.t (.cons Fz.nil (.cons Fz.v .nil)))
 refine sg ?_
 obtain ⟨x1, hx1, h⟩ := bindS h
 refine ⟨_, rfl, ?_⟩
 refine CallOk.call (w_disk_may hx1) (.cons (lr) (.cons (Le.nil) (.nil))) ?_
 refine wT [(2, .b 2 0), (3, .b 3 0), (11, vb (!x1))] [(2, .box [.s (mA p_d.Synced), .s (mA p_d.Loose), vb p_d.Down]), (3, .box [vi p_at])] Q3 J2 rfl ?_
 refine cn 11 (!x1) rfl h (fun hb h => ?_) fun hb h => ?_
 ·refine sg ?_
  refine wE [(4, .v (.slice none 0 0)), (5, vi (1))] Q2 ?_
  refine rt ?_
  cases h
  exact (Fz.t (.cons Fz.nil (.cons Fz.v .nil)))
 refine sk ?_
 refine sg ?_
 obtain ⟨x2, hx2, h⟩ := bindS h
 refine ⟨_, rfl, _, rfl, Or.inl ?_⟩
 refine CallOk.own (D := 20) (wo_slices_Concat_api_Page_api_Page hx2) (LeL.refl _) rfl ?_
 refine wT [(3, .b 3 0), (6, .o 20)] [(3, .box [vi p_at]), (20, .own 85 2 (mA x2))] Q2 J2 rfl ?_
 refine sg ?_
 obtain ⟨x3, hx3, h⟩ := bindS h
 refine CallOk.chgLe (id := 20) (w_slices_Reverse_api_Page_api_Page hx3) rfl (.refl _) rfl (.cons (Lr.o) (.nil)) ?_
 rintro _ _ ⟨rfl, rfl⟩
 refine wT [(3, .b 3 0), (6, .o 20)] [(3, .box [vi p_at]), (20, .own 85 2 (mA x3.2))] Q2 J2 rfl ?_
 refine sg ?_
 obtain ⟨x4, hx4, h⟩ := bindS h
 refine CallOk.borrow (w_disk_find_api_Page__disk_Read_1 hx4) (.cons (Fz.o rfl) (.cons (Fz.c .nil (.cons (Fz.b rfl rfl) .nil)) (.nil))) rfl ?_
 refine wT [(6, .o 20), (7, vi x4)] [(20, .own 85 2 (mA x3.2))] Q2 J1 rfl ?_
 refine sq ?_
 refine sg ?_
 refine wT [(6, .o 20), (7, vi x4), (27, vb (decide (x4 < 0)))] [(20, .own 85 2 (mA x3.2))] Q3 J1 rfl ?_
 refine cn 27 (decide (x4 < 0)) rfl h (fun hb h => ?_) fun hb h => ?_
 ·refine sg ?_
  refine wE [(4, .v (.slice none 0 0)), (5, vi (41))] Q2 ?_
  refine rt ?_
  cases h
  exact (Fz.t (.cons Fz.nil (.cons Fz.v .nil)))
 refine sk ?_
 refine sg ?_
 obtain ⟨x5, hx5, h⟩ := bindS h
 obtain ⟨x6, hx6, h⟩ := bindS h
 refine ⟨_, idx_nat hx5, idx_ltm hx5, _, idx_row hx5, rfl, _, rfl, ?_⟩
 refine CallOk.call (w_bytes_Clone hx6) (LeL.refl _) ?_
 refine wE [(4, .s (mI x6)), (5, vi (0))] Q2 ?_
 refine rt ?_
 cases h
 exact (Fz.t (.cons Fz.s (.cons Fz.v .nil)))
theorem w_chunk_there {p_d} {p_id} {r} (h : chunk_there p_d p_id = some r) : Pure Tryz.prog 70 [(.a [(.s (mA p_d.Synced)), (.s (mA p_d.Loose)), (vb p_d.Down)]), (vi p_id)] (.t [(.s (mI r.1)), (vi r.2)]) := by
 refine po Tryz.tok 26 Tryz.func70 (by kernel_rfl) rfl rfl rfl ?_
 unfold chunk_there at h
 refine wE [(0, .a [.s (mA p_d.Synced), .s (mA p_d.Loose), vb p_d.Down]), (1, vi p_id)] Q2 ?_
 refine sg ?_
 refine wT [(1, vi p_id), (2, .b 2 0)] [(2, .box [.s (mA p_d.Synced), .s (mA p_d.Loose), vb p_d.Down])] Q2 J1 rfl ?_
 refine sq ?_
 refine sg ?_
 obtain ⟨x1, hx1, h⟩ := bindS h
 refine CallOk.call (w_chunk_within hx1) (LeL.refl _) ?_
 refine wT [(1, vi p_id), (2, .b 2 0), (10, vb (!x1))] [(2, .box [.s (mA p_d.Synced), .s (mA p_d.Loose), vb p_d.Down])] Q3 J1 rfl ?_
 refine cn 10 (!x1) rfl h (fun hb h => ?_) fun hb h => ?_
 ·refine sg ?_
  refine wE [(4, .v (.slice none 0 0)), (5, vi (1))] Q2 ?_
  refine rt ?_
  cases h
  exact (Fz.t (.cons Fz.nil (.cons Fz.v .nil)))
 refine sk ?_
 refine sg ?_
 obtain ⟨x2, hx2, h⟩ := bindS h
 refine ⟨_, rfl, ?_⟩
 refine CallOk.call (w_disk_Read hx2) (LeL.refl _) ?_
 refine wE [(6, .s (mI x2.1)), (7, vi x2.2)] Q2 ?_
 refine sq ?_
 obtain ⟨v1, hv1, h⟩ := bindS h
 refine Ok.seqw ⟨Cat.tab [(6, .s (mI x2.1)), (7, vi x2.2), (23, vb v1)], []⟩ ?_ ?_
 ·refine rg ?_
  obtain ⟨c1, hg1, hv1⟩ := bindS hv1
  refine Br.ite hg1 (fun hb hg1 => ?_) fun hb hg1 => ?_
  ·refine ⟨_, List.length_map _, fun _ => ?_⟩
   cases hg1
   cases hv1
   exact wt Q3 Q0 rfl
  cases hg1
  cases hv1
  exact wt Q3 Q0 rfl
 refine cn 23 (v1) rfl h (fun hb h => ?_) fun hb h => ?_
 ·refine sg ?_
  refine wE [(4, .v (.slice none 0 0)), (5, vi (41))] Q2 ?_
  refine rt ?_
  cases h
  exact (Fz.t (.cons Fz.nil (.cons Fz.v .nil)))
 refine sk ?_
 refine sg ?_
 refine wE [(4, .s (mI x2.1)), (5, vi x2.2)] Q2 ?_
 refine rt ?_
 cases h
 exact (Fz.t (.cons Fz.s (.cons Fz.v .nil)))
theorem w_pack_ReadInt {p_b} {r} (h : pack_ReadInt p_b = some r) : Pure Tryz.prog 145 [(.s (mI p_b))] (.t [(vi r.1), (.s (mI r.2.1)), (vi r.2.2)]) := by
 refine po Tryz.tok 50 Tryz.func145 (by kernel_rfl) rfl rfl rfl ?_
 unfold pack_ReadInt at h
 refine wE [(0, .s (mI p_b))] Q1 ?_
 refine sg ?_
 refine wE [(0, .s (mI p_b))] Q1 ?_
 refine sg ?_
 refine wE [(0, .s (mI p_b)), (5, .v (.int .u64 (0)))] Q2 ?_
 refine Ok.seqj (fun v1 => ⟨Cat.tab [], []⟩) (fun v1 => pack_ReadInt_J1 v1 = some r) ?_ ?_
 ·refine sg ?_
  refine ⟨_, List.length_map _, fun _ => ?_⟩
  refine wE [(0, .s (mI p_b)), (5, .v (.int .u64 (0))), (8, .s (mI p_b)), (9, vi (p_b.length : Int)), (10, vi (0))] Q5 ?_
  refine bl ?_
  refine Ok.loop (fun (s1 : Int × Int) => ⟨Cat.tab [(0, .s (mI p_b)), (5, .v (.int .u64 s1.1)), (8, .s (mI p_b)), (9, vi (p_b.length : Int)), (10, vi s1.2)], []⟩) (pack_ReadInt_B1 p_b) (s0 := (0, 0)) h (wt Q5 Q0 rfl) ?_
  intro s1 y1 hB1 hy1
  unfold pack_ReadInt_B1 at hB1
  refine sg ?_
  refine wE [(0, .s (mI p_b)), (5, .v (.int .u64 s1.1)), (8, .s (mI p_b)), (9, vi (p_b.length : Int)), (10, vi s1.2), (11, vb (decide (s1.2 < (p_b.length : Int))))] Q6 ?_
  refine sq ?_
  refine cn 11 (decide (s1.2 < (p_b.length : Int))) rfl hB1 (fun hb hB1 => ?_) fun hb hB1 => ?_
  ·refine sk ?_
   refine sq ?_
   refine bl ?_
   refine sg ?_
   obtain ⟨x1, hx1, hB1⟩ := bindS hB1
   refine ⟨_, idx_nat hx1, _, idx_row hx1, _, rfl, ?_⟩
   refine wE [(0, .s (mI p_b)), (5, .v (.int .u64 s1.1)), (6, vi s1.2), (7, vu x1), (8, .s (mI p_b)), (9, vi (p_b.length : Int)), (10, vi s1.2)] Q7 ?_
   refine sq ?_
   obtain ⟨v2, hv2, hB1⟩ := bindS hB1
   refine Ok.seqw ⟨Cat.tab [(0, .s (mI p_b)), (5, .v (.int .u64 s1.1)), (6, vi s1.2), (7, vu x1), (8, .s (mI p_b)), (9, vi (p_b.length : Int)), (10, vi s1.2), (20, vb v2)], []⟩ ?_ ?_
   ·refine rg ?_
    obtain ⟨c1, hg1, hv2⟩ := bindS hv2
    refine Br.ite hg1 (fun hb hg1 => ?_) fun hb hg1 => ?_
    ·cases hg1
     cases hv2
     exact wt Q8 Q0 rfl
    cases hg1
    cases hv2
    exact wt Q8 Q0 rfl
   refine cn 20 (v2) rfl hB1 (fun hb hB1 => ?_) fun hb hB1 => ?_
   ·refine sg ?_
    refine wE [(2, vi (0)), (3, .v (.slice none 0 0)), (4, vi (11))] Q3 ?_
    refine rt ?_
    have hB1 := out_ret hB1 hy1
    cases hB1
    exact (Fz.t (.cons Fz.v (.cons Fz.nil (.cons Fz.v .nil))))
   refine sk ?_
   refine sg ?_
   obtain ⟨hc1, hB1⟩ := chk_some hB1
   obtain ⟨hc2, hB1⟩ := chk_some hB1
   refine ⟨_, b8_and x1 (127 : UInt8), _, wrap_of_u8 (k := .u64) (by decide) _, (Or.inl ⟨hc1, hc2, _, rfl, _, rfl, ?_⟩)⟩
   refine wE [(0, .s (mI p_b)), (5, .v (.int .u64 (orK .u64 s1.1 (shlK .u64 ((x1 &&& (127 : UInt8)).toNat : Int) (7 * s1.2))))), (6, vi s1.2), (7, vu x1), (8, .s (mI p_b)), (9, vi (p_b.length : Int)), (10, vi s1.2)] Q7 ?_
   refine sq ?_
   refine sg ?_
   refine wE [(0, .s (mI p_b)), (5, .v (.int .u64 (orK .u64 s1.1 (shlK .u64 ((x1 &&& (127 : UInt8)).toNat : Int) (7 * s1.2))))), (6, vi s1.2), (7, vu x1), (8, .s (mI p_b)), (9, vi (p_b.length : Int)), (10, vi s1.2), (30, vb (decide ((x1.toNat : Int) ≥ 128)))] Q8 ?_
   refine cn 30 (decide ((x1.toNat : Int) ≥ 128)) rfl hB1 (fun hb hB1 => ?_) fun hb hB1 => ?_
   ·refine xt ?_
    refine rg ?_
    obtain ⟨hc3, hB1⟩ := chk_some hB1
    refine (Or.inl ⟨hc3, ?_⟩)
    exact ⟨_, sj hB1, wt Q5 Q0 rfl⟩
   refine sk ?_
   refine sq ?_
   obtain ⟨v3, hv3, hB1⟩ := bindS hB1
   refine Ok.seqw ⟨Cat.tab [(0, .s (mI p_b)), (5, .v (.int .u64 (orK .u64 s1.1 (shlK .u64 ((x1 &&& (127 : UInt8)).toNat : Int) (7 * s1.2))))), (6, vi s1.2), (36, vb v3)], []⟩ ?_ ?_
   ·refine rg ?_
    obtain ⟨c2, hg2, hv3⟩ := bindS hv3
    refine Br.ite hg2 (fun hb hg2 => ?_) fun hb hg2 => ?_
    ·cases hg2
     cases hv3
     exact wt Q4 Q0 rfl
    cases hg2
    cases hv3
    exact wt Q4 Q0 rfl
   refine cn 36 (v3) rfl hB1 (fun hb hB1 => ?_) fun hb hB1 => ?_
   ·refine sg ?_
    refine wE [(2, vi (0)), (3, .v (.slice none 0 0)), (4, vi (11))] Q3 ?_
    refine rt ?_
    have hB1 := out_ret hB1 hy1
    cases hB1
    exact (Fz.t (.cons Fz.v (.cons Fz.nil (.cons Fz.v .nil))))
   refine sk ?_
   refine sq ?_
   refine Ok.draw (m := 15) (MD := ⟨[]⟩) (CH := ⟨[]⟩) Tryz.tok Tryz.mixed (by kernel_rfl) ?_
   obtain ⟨hc4, hB1⟩ := chk_some hB1
   obtain ⟨hc5, hB1⟩ := chk_some hB1
   obtain ⟨hc6, hB1⟩ := chk_some hB1
   refine ⟨_, rfl, _, ⟨(by decide), _, rfl, rfl⟩, _, ⟨_, rfl, rfl⟩, _, rfl, _, ⟨_, rfl, rfl⟩, _, ⟨_, rfl, rfl⟩, _, ⟨_, InI64.wrap hc4, rfl⟩, _, ⟨_, rfl, rfl⟩, _, rfl, _, rfl, _, Or.inl ⟨hc5, rfl⟩, _, ⟨_, sl_nat hc6.1, sl_len hc6, Nat.le_refl _, rowsK (f := cU8) (K := 1) (fun _ => rfl) p_b, _, sl_drop _ _ _, rfl⟩, _, rfl, _, rfl, _, rfl, Q0, ?_⟩
   refine wE [(2, vi (xorK .i64 (IntKind.i64.wrap (shrK .u64 (orK .u64 s1.1 (shlK .u64 ((x1 &&& (127 : UInt8)).toNat : Int) (7 * s1.2))) (1))) (0 - (IntKind.i64.wrap (andK .u64 (orK .u64 s1.1 (shlK .u64 ((x1 &&& (127 : UInt8)).toNat : Int) (7 * s1.2))) (1)))))), (3, .s (mI (p_b.drop (s1.2 + 1).toNat))), (4, vi (0))] Q3 ?_
   refine rt ?_
   have hB1 := out_ret hB1 hy1
   cases hB1
   exact (Fz.t (.cons Fz.v (.cons Fz.s (.cons Fz.v .nil))))
  refine xt ?_
  have hB1 := out_ret hB1 hy1
  exact ⟨_, hB1, wt Q0 Q0 rfl⟩
 intro v1 h
 unfold pack_ReadInt_J1 at h
 refine sg ?_
 refine wE [(2, vi (0)), (3, .v (.slice none 0 0)), (4, vi (10))] Q3 ?_
 refine rt ?_
 cases h
 exact (Fz.t (.cons Fz.v (.cons Fz.nil (.cons Fz.v .nil))))
theorem w_chunk_take_int__pack_ReadInt {self} {r} (h : chunk_take_int__pack_ReadInt self = some r) : PChg Tryz.prog 144 [(.b 1000 0), (.c (.func 145) [] [])] (.box [(.s (mI self.b_)), (vb self.bad_)]) (fun x c => x = (vi r.1) ∧ c = .box [(.s (mI r.2.b_)), (vb r.2.bad_)]) := by
 refine pchg_of_ok (n := 36) (c := Tryz.f144.body.getD .skip) Tryz.tok Tryz.func144 (by kernel_rfl) rfl rfl (Nat.le_of_ble_eq_true rfl) ?_
 unfold chunk_take_int__pack_ReadInt at h
 refine wT [(0, .b 1000 0), (1, .c (.func 145) [] [])] [(1000, .box [.s (mI self.b_), vb self.bad_])] Q2 J1 rfl ?_
 refine sg ?_
 refine wT [(0, .b 1000 0), (1, .c (.func 145) [] [])] [(1000, .box [.s (mI self.b_), vb self.bad_])] Q2 J1 rfl ?_
 refine sg ?_
 obtain ⟨x1, hx1, h⟩ := bindS h
 refine ⟨_, rfl, ?_⟩
 refine CallOk.call (w_pack_ReadInt hx1) (LeL.refl _) ?_
 refine wT [(0, .b 1000 0), (5, vi x1.1), (6, .s (mI x1.2.1)), (7, vi x1.2.2)] [(1000, .box [.s (mI self.b_), vb self.bad_])] Q4 J1 rfl ?_
 refine sq ?_
 obtain ⟨v1, hv1, h⟩ := bindS h
 refine Ok.seqw ⟨Cat.tab [(0, .b 1000 0), (5, vi x1.1), (6, .s (mI x1.2.1)), (26, vb v1)], [(1000, .box [.s (mI self.b_), vb self.bad_])]⟩ ?_ ?_
 ·refine rg ?_
  refine ⟨_, rfl, ?_⟩
  obtain ⟨c1, hg1, hv1⟩ := bindS hv1
  refine Br.itf hg1 (fun hb hg1 => ?_) fun hb hg1 => ?_
  ·cases hg1
   cases hv1
   exact wt Q4 J1 rfl
  cases hg1
  cases hv1
  exact wt Q4 J1 rfl
 refine cn 26 (v1) rfl h (fun hb h => ?_) fun hb h => ?_
 ·refine sg ?_
  refine ⟨_, rfl, ?_⟩
  refine wT [] [(1000, .box [.s (mI self.b_), vb true])] Q0 J1 rfl ?_
  refine sg ?_
  refine wT [(8, vi (0))] [(1000, .box [.s (mI self.b_), vb true])] Q1 J1 rfl ?_
  refine sg ?_
  refine wT [(4, vi (0))] [(1000, .box [.s (mI self.b_), vb true])] Q1 J1 rfl ?_
  refine rt ?_
  cases h
  exact ⟨_, _, ⟨rfl, rfl⟩, rfl, rfl, Fz.v⟩
 refine sk ?_
 refine sg ?_
 refine ⟨_, rfl, ?_⟩
 refine wT [(5, vi x1.1)] [(1000, .box [.s (mI x1.2.1), vb self.bad_])] Q1 J1 rfl ?_
 refine sg ?_
 refine wT [(4, vi x1.1)] [(1000, .box [.s (mI x1.2.1), vb self.bad_])] Q1 J1 rfl ?_
 refine rt ?_
 cases h
 exact ⟨_, _, ⟨rfl, rfl⟩, rfl, rfl, Fz.v⟩
theorem w_chunk_reader_int {self} {r} (h : chunk_reader_int self = some r) : PChg Tryz.prog 104 [(.b 1000 0)] (.box [(.s (mI self.b_)), (vb self.bad_)]) (fun x c => x = (vi r.1) ∧ c = .box [(.s (mI r.2.b_)), (vb r.2.bad_)]) := by
 refine pchg_of_ok (n := 5) (c := Tryz.f104.body.getD .skip) Tryz.tok Tryz.func104 (by kernel_rfl) rfl rfl (Nat.le_of_ble_eq_true rfl) ?_
 unfold chunk_reader_int at h
 refine wT [(0, .b 1000 0)] [(1000, .box [.s (mI self.b_), vb self.bad_])] Q1 J1 rfl ?_
 refine sg ?_
 refine wT [(0, .b 1000 0)] [(1000, .box [.s (mI self.b_), vb self.bad_])] Q1 J1 rfl ?_
 refine sg ?_
 obtain ⟨x1, hx1, h⟩ := bindS h
 refine CallOk.chgLe (id := 1000) (w_chunk_take_int__pack_ReadInt hx1) rfl (.box (.cons (lr) (.cons (lr) (.nil)))) rfl (.cons (Lr.b) (.cons (Lr.imm rfl) (.nil))) ?_
 rintro _ _ ⟨rfl, rfl⟩
 refine wT [(2, vi x1.1)] [(1000, .box [.s (mI x1.2.b_), vb x1.2.bad_])] Q1 J1 rfl ?_
 refine rt ?_
 cases h
 exact ⟨_, _, ⟨rfl, rfl⟩, rfl, rfl, Fz.v⟩
theorem w_pack_reader_num {self} {r} (h : pack_reader_num self = some r) : PChg Tryz.prog 148 [(.b 1000 0)] (.box [(.s (mI self.rest_.b_)), (vi self.e_)]) (fun x c => x = (vi r.1) ∧ c = .box [(.s (mI r.2.rest_.b_)), (vi r.2.e_)]) := by
 refine pchg_of_ok (n := 31) (c := Tryz.f148.body.getD .skip) Tryz.tok Tryz.func148 (by kernel_rfl) rfl rfl (Nat.le_of_ble_eq_true rfl) ?_
 unfold pack_reader_num at h
 refine wT [(0, .b 1000 0)] [(1000, .box [.s (mI self.rest_.b_), vi self.e_])] Q1 J1 rfl ?_
 refine sg ?_
 refine wT [(0, .b 1000 0)] [(1000, .box [.s (mI self.rest_.b_), vi self.e_])] Q1 J1 rfl ?_
 refine sq ?_
 refine sg ?_
 refine ⟨_, rfl, ?_⟩
 refine wT [(0, .b 1000 0), (10, vb (self.e_ != 0))] [(1000, .box [.s (mI self.rest_.b_), vi self.e_])] Q2 J1 rfl ?_
 refine cn 10 (self.e_ != 0) rfl h (fun hb h => ?_) fun hb h => ?_
 ·refine sg ?_
  refine wT [(2, vi (0))] [(1000, .box [.s (mI self.rest_.b_), vi self.e_])] Q1 J1 rfl ?_
  refine rt ?_
  cases h
  exact ⟨_, _, ⟨rfl, rfl⟩, rfl, rfl, Fz.v⟩
 refine sk ?_
 refine sg ?_
 obtain ⟨x1, hx1, h⟩ := bindS h
 refine ⟨_, rfl, ?_⟩
 refine CallOk.call (w_pack_ReadInt hx1) (LeL.refl _) ?_
 refine wT [(0, .b 1000 0), (3, vi x1.1), (4, .s (mI x1.2.1)), (5, vi x1.2.2)] [(1000, .box [.s (mI self.rest_.b_), vi self.e_])] Q4 J1 rfl ?_
 refine sg ?_
 refine ⟨_, rfl, _, rfl, ?_⟩
 refine wT [(3, vi x1.1)] [(1000, .box [.s (mI x1.2.1), vi x1.2.2])] Q1 J1 rfl ?_
 refine sg ?_
 refine wT [(2, vi x1.1)] [(1000, .box [.s (mI x1.2.1), vi x1.2.2])] Q1 J1 rfl ?_
 refine rt ?_
 cases h
 exact ⟨_, _, ⟨rfl, rfl⟩, rfl, rfl, Fz.v⟩
theorem w_pack_reader_count {self} {r} (h : pack_reader_count self = some r) : PChg Tryz.prog 147 [(.b 1000 0)] (.box [(.s (mI self.rest_.b_)), (vi self.e_)]) (fun x c => x = (vi r.1) ∧ c = .box [(.s (mI r.2.rest_.b_)), (vi r.2.e_)]) := by
 refine pchg_of_ok (n := 31) (c := Tryz.f147.body.getD .skip) Tryz.tok Tryz.func147 (by kernel_rfl) rfl rfl (Nat.le_of_ble_eq_true rfl) ?_
 unfold pack_reader_count at h
 refine wT [(0, .b 1000 0)] [(1000, .box [.s (mI self.rest_.b_), vi self.e_])] Q1 J1 rfl ?_
 refine sg ?_
 refine wT [(0, .b 1000 0)] [(1000, .box [.s (mI self.rest_.b_), vi self.e_])] Q1 J1 rfl ?_
 refine sg ?_
 obtain ⟨x1, hx1, h⟩ := bindS h
 refine CallOk.chgLe (id := 1000) (w_pack_reader_num hx1) rfl (.box (.cons (lr) (.cons (lr) (.nil)))) rfl (.cons (Lr.b) (.nil)) ?_
 rintro _ _ ⟨rfl, rfl⟩
 refine wT [(0, .b 1000 0), (3, vi x1.1)] [(1000, .box [.s (mI x1.2.rest_.b_), vi x1.2.e_])] Q2 J1 rfl ?_
 refine Ok.seqj (fun v1 => ⟨Cat.tab [], [(1000, .box [.s (mI x1.2.rest_.b_), vi v1])]⟩) (fun v1 => pack_reader_count_J1 x1 v1 = some r) ?_ ?_
 ·refine bl ?_
  refine sg ?_
  refine ⟨_, rfl, ?_⟩
  refine wT [(0, .b 1000 0), (3, vi x1.1), (7, vb (x1.2.e_ != 0))] [(1000, .box [.s (mI x1.2.rest_.b_), vi x1.2.e_])] Q3 J1 rfl ?_
  refine cn 7 (x1.2.e_ != 0) rfl h (fun hb h => ?_) fun hb h => ?_
  ·refine sg ?_
   refine wT [(2, vi (0))] [(1000, .box [.s (mI x1.2.rest_.b_), vi x1.2.e_])] Q1 J1 rfl ?_
   refine rt ?_
   cases h
   exact ⟨_, _, ⟨rfl, rfl⟩, rfl, rfl, Fz.v⟩
  refine sg ?_
  refine wT [(0, .b 1000 0), (3, vi x1.1), (13, vb (decide (x1.1 < 0)))] [(1000, .box [.s (mI x1.2.rest_.b_), vi x1.2.e_])] Q3 J1 rfl ?_
  refine cn 13 (decide (x1.1 < 0)) rfl h (fun hb h => ?_) fun hb h => ?_
  ·refine rg ?_
   refine ⟨_, rfl, ?_⟩
   exact ⟨_, h, wt Q0 ⟨⟨_, rfl, .refl _⟩, Q0⟩ rfl⟩
  refine sg ?_
  refine ⟨_, rfl, _, List.length_map _, fun _ => ?_⟩
  refine wT [(0, .b 1000 0), (3, vi x1.1), (19, vb (decide (x1.1 > (x1.2.rest_.b_.length : Int))))] [(1000, .box [.s (mI x1.2.rest_.b_), vi x1.2.e_])] Q3 J1 rfl ?_
  refine cn 19 (decide (x1.1 > (x1.2.rest_.b_.length : Int))) rfl h (fun hb h => ?_) fun hb h => ?_
  ·refine rg ?_
   refine ⟨_, rfl, ?_⟩
   exact ⟨_, h, wt Q0 ⟨⟨_, rfl, .refl _⟩, Q0⟩ rfl⟩
  refine sg ?_
  refine wT [(2, vi x1.1)] [(1000, .box [.s (mI x1.2.rest_.b_), vi x1.2.e_])] Q1 J1 rfl ?_
  refine rt ?_
  cases h
  exact ⟨_, _, ⟨rfl, rfl⟩, rfl, rfl, Fz.v⟩
 intro v1 h
 unfold pack_reader_count_J1 at h
 refine sg ?_
 refine wT [(2, vi (0))] [(1000, .box [.s (mI x1.2.rest_.b_), vi v1])] Q1 J1 rfl ?_
 refine rt ?_
 cases h
 exact ⟨_, _, ⟨rfl, rfl⟩, rfl, rfl, Fz.v⟩
theorem w_pack_rest_take {self} {p_n} {r} (h : pack_rest_take self p_n = some r) : PChg Tryz.prog 167 [(.b 1000 0), (vi p_n)] (.box [(.s (mI self.rest_.b_)), (vi self.e_)]) (fun x c => x = (.s (mI r.1)) ∧ c = .box [(.s (mI r.2.rest_.b_)), (vi r.2.e_)]) := by
 refine pchg_of_ok (n := 22) (c := Tryz.f167.body.getD .skip) Tryz.tok Tryz.func167 (by kernel_rfl) rfl rfl (Nat.le_of_ble_eq_true rfl) ?_
 unfold pack_rest_take at h
 refine wT [(0, .b 1000 0), (1, vi p_n)] [(1000, .box [.s (mI self.rest_.b_), vi self.e_])] Q2 J1 rfl ?_
 refine sg ?_
 refine wT [(0, .b 1000 0), (1, vi p_n)] [(1000, .box [.s (mI self.rest_.b_), vi self.e_])] Q2 J1 rfl ?_
 refine sg ?_
 obtain ⟨hc1, h⟩ := chk_some h
 refine ⟨_, rfl, _, sl_nat hc1.1, Nat.zero_le _, sl_len hc1, rowsK (f := cU8) (K := 1) (fun _ => rfl) self.rest_.b_, _, sl_take _ _ _, ?_⟩
 refine wT [(0, .b 1000 0), (1, vi p_n), (5, .s (mI (self.rest_.b_.take p_n.toNat)))] [(1000, .box [.s (mI self.rest_.b_), vi self.e_])] Q3 J1 rfl ?_
 refine sg ?_
 obtain ⟨hc2, h⟩ := chk_some h
 refine ⟨_, rfl, _, sl_nat hc2.1, sl_len hc2, Nat.le_refl _, rowsK (f := cU8) (K := 1) (fun _ => rfl) self.rest_.b_, _, sl_drop _ _ _, _, rfl, ?_⟩
 refine wT [(5, .s (mI (self.rest_.b_.take p_n.toNat)))] [(1000, .box [.s (mI (self.rest_.b_.drop p_n.toNat)), vi self.e_])] Q1 J1 rfl ?_
 refine sg ?_
 refine wT [(4, .s (mI (self.rest_.b_.take p_n.toNat)))] [(1000, .box [.s (mI (self.rest_.b_.drop p_n.toNat)), vi self.e_])] Q1 J1 rfl ?_
 refine rt ?_
 cases h
 exact ⟨_, _, ⟨rfl, rfl⟩, rfl, rfl, Fz.s⟩
theorem w_pack_reader_str {self} {r} (h : pack_reader_str self = some r) : PChg Tryz.prog 146 [(.b 1000 0)] (.box [(.s (mI self.rest_.b_)), (vi self.e_)]) (fun x c => x = (vs r.1) ∧ c = .box [(.s (mI r.2.rest_.b_)), (vi r.2.e_)]) := by
 refine pchg_of_ok (n := 17) (c := Tryz.f146.body.getD .skip) Tryz.tok Tryz.func146 (by kernel_rfl) rfl rfl (Nat.le_of_ble_eq_true rfl) ?_
 unfold pack_reader_str at h
 refine wT [(0, .b 1000 0)] [(1000, .box [.s (mI self.rest_.b_), vi self.e_])] Q1 J1 rfl ?_
 refine sg ?_
 refine wT [(0, .b 1000 0)] [(1000, .box [.s (mI self.rest_.b_), vi self.e_])] Q1 J1 rfl ?_
 refine sg ?_
 obtain ⟨x1, hx1, h⟩ := bindS h
 refine CallOk.chgLe (id := 1000) (w_pack_reader_count hx1) rfl (.box (.cons (lr) (.cons (lr) (.nil)))) rfl (.cons (Lr.b) (.nil)) ?_
 rintro _ _ ⟨rfl, rfl⟩
 refine wT [(0, .b 1000 0), (3, vi x1.1)] [(1000, .box [.s (mI x1.2.rest_.b_), vi x1.2.e_])] Q2 J1 rfl ?_
 refine sq ?_
 refine sg ?_
 refine ⟨_, rfl, ?_⟩
 refine wT [(0, .b 1000 0), (3, vi x1.1), (10, vb (x1.2.e_ != 0))] [(1000, .box [.s (mI x1.2.rest_.b_), vi x1.2.e_])] Q3 J1 rfl ?_
 refine cn 10 (x1.2.e_ != 0) rfl h (fun hb h => ?_) fun hb h => ?_
 ·refine sg ?_
  refine wT [(2, vs ([]))] [(1000, .box [.s (mI x1.2.rest_.b_), vi x1.2.e_])] Q1 J1 rfl ?_
  refine rt ?_
  cases h
  exact ⟨_, _, ⟨rfl, rfl⟩, rfl, rfl, Fz.v⟩
 refine sk ?_
 refine sg ?_
 obtain ⟨x2, hx2, h⟩ := bindS h
 refine CallOk.chgLe (id := 1000) (w_pack_rest_take hx2) rfl (.box (.cons (lr) (.cons (lr) (.nil)))) rfl (.cons (Lr.b) (.cons (Lr.imm rfl) (.nil))) ?_
 rintro _ _ ⟨rfl, rfl⟩
 refine ⟨_, rfl, ?_⟩
 refine wT [(2, vs x2.1)] [(1000, .box [.s (mI x2.2.rest_.b_), vi x2.2.e_])] Q1 J1 rfl ?_
 refine rt ?_
 cases h
 exact ⟨_, _, ⟨rfl, rfl⟩, rfl, rfl, Fz.v⟩
theorem w_pack_ReadStr {p_b} {r} (h : pack_ReadStr p_b = some r) : Pure Tryz.prog 106 [(.s (mI p_b))] (.t [(vs r.1), (.s (mI r.2.1)), (vi r.2.2)]) := by
 refine po Tryz.tok 28 Tryz.func106 (by kernel_rfl) rfl rfl rfl ?_
 unfold pack_ReadStr at h
 refine wE [(0, .s (mI p_b))] Q1 ?_
 refine sg ?_
 refine wE [(0, .s (mI p_b))] Q1 ?_
 refine sg ?_
 refine wT [(5, .b 10 0)] [(10, .box [.s (mI p_b), vi (0)])] Q1 J1 rfl ?_
 refine sg ?_
 obtain ⟨x1, hx1, h⟩ := bindS h
 refine CallOk.chgLe (id := 10) (w_pack_reader_str hx1) rfl (.box (.cons (lr) (.cons (lr) (.nil)))) rfl (.cons (Lr.b) (.nil)) ?_
 rintro _ _ ⟨rfl, rfl⟩
 refine wT [(5, .b 10 0), (6, vs x1.1)] [(10, .box [.s (mI x1.2.rest_.b_), vi x1.2.e_])] Q2 J1 rfl ?_
 refine sq ?_
 refine sg ?_
 refine ⟨_, rfl, ?_⟩
 refine wT [(5, .b 10 0), (6, vs x1.1), (17, vb (x1.2.e_ != 0))] [(10, .box [.s (mI x1.2.rest_.b_), vi x1.2.e_])] Q3 J1 rfl ?_
 refine cn 17 (x1.2.e_ != 0) rfl h (fun hb h => ?_) fun hb h => ?_
 ·refine sq ?_
  refine Ok.draw (m := 7) (MD := ⟨[]⟩) (CH := ⟨[]⟩) Tryz.tok Tryz.mixed (by kernel_rfl) ?_
  refine ⟨_, rfl, _, rfl, _, rfl, _, ⟨_, rfl, rfl⟩, _, rfl, _, rfl, _, rfl, Q0, ?_⟩
  refine wE [(2, vs ([])), (3, .v (.slice none 0 0)), (4, vi x1.2.e_)] Q3 ?_
  refine rt ?_
  cases h
  exact (Fz.t (.cons Fz.v (.cons Fz.nil (.cons Fz.v .nil))))
 refine sk ?_
 refine sq ?_
 refine Ok.draw (m := 9) (MD := ⟨[]⟩) (CH := ⟨[]⟩) Tryz.tok Tryz.mixed (by kernel_rfl) ?_
 refine ⟨_, rfl, _, rfl, _, rfl, _, rfl, _, rfl, _, ⟨_, rfl, rfl⟩, _, rfl, _, rfl, _, rfl, Q0, ?_⟩
 refine wE [(2, vs x1.1), (3, .s (mI x1.2.rest_.b_)), (4, vi (0))] Q3 ?_
 refine rt ?_
 cases h
 exact (Fz.t (.cons Fz.v (.cons Fz.s (.cons Fz.v .nil))))
theorem w_chunk_take_string__pack_ReadStr {self} {r} (h : chunk_take_string__pack_ReadStr self = some r) : PChg Tryz.prog 105 [(.b 1000 0), (.c (.func 106) [] [])] (.box [(.s (mI self.b_)), (vb self.bad_)]) (fun x c => x = (vs r.1) ∧ c = .box [(.s (mI r.2.b_)), (vb r.2.bad_)]) := by
 refine pchg_of_ok (n := 36) (c := Tryz.f105.body.getD .skip) Tryz.tok Tryz.func105 (by kernel_rfl) rfl rfl (Nat.le_of_ble_eq_true rfl) ?_
 unfold chunk_take_string__pack_ReadStr at h
 refine wT [(0, .b 1000 0), (1, .c (.func 106) [] [])] [(1000, .box [.s (mI self.b_), vb self.bad_])] Q2 J1 rfl ?_
 refine sg ?_
 refine wT [(0, .b 1000 0), (1, .c (.func 106) [] [])] [(1000, .box [.s (mI self.b_), vb self.bad_])] Q2 J1 rfl ?_
 refine sg ?_
 obtain ⟨x1, hx1, h⟩ := bindS h
 refine ⟨_, rfl, ?_⟩
 refine CallOk.call (w_pack_ReadStr hx1) (LeL.refl _) ?_
 refine wT [(0, .b 1000 0), (5, vs x1.1), (6, .s (mI x1.2.1)), (7, vi x1.2.2)] [(1000, .box [.s (mI self.b_), vb self.bad_])] Q4 J1 rfl ?_
 refine sq ?_
 obtain ⟨v1, hv1, h⟩ := bindS h
 refine Ok.seqw ⟨Cat.tab [(0, .b 1000 0), (5, vs x1.1), (6, .s (mI x1.2.1)), (26, vb v1)], [(1000, .box [.s (mI self.b_), vb self.bad_])]⟩ ?_ ?_
 ·refine rg ?_
  refine ⟨_, rfl, ?_⟩
  obtain ⟨c1, hg1, hv1⟩ := bindS hv1
  refine Br.itf hg1 (fun hb hg1 => ?_) fun hb hg1 => ?_
  ·cases hg1
   cases hv1
   exact wt Q4 J1 rfl
  cases hg1
  cases hv1
  exact wt Q4 J1 rfl
 refine cn 26 (v1) rfl h (fun hb h => ?_) fun hb h => ?_
 ·refine sg ?_
  refine ⟨_, rfl, ?_⟩
  refine wT [] [(1000, .box [.s (mI self.b_), vb true])] Q0 J1 rfl ?_
  refine sg ?_
  refine wT [(8, vs ([]))] [(1000, .box [.s (mI self.b_), vb true])] Q1 J1 rfl ?_
  refine sg ?_
  refine wT [(4, vs ([]))] [(1000, .box [.s (mI self.b_), vb true])] Q1 J1 rfl ?_
  refine rt ?_
  cases h
  exact ⟨_, _, ⟨rfl, rfl⟩, rfl, rfl, Fz.v⟩
 refine sk ?_
 refine sg ?_
 refine ⟨_, rfl, ?_⟩
 refine wT [(5, vs x1.1)] [(1000, .box [.s (mI x1.2.1), vb self.bad_])] Q1 J1 rfl ?_
 refine sg ?_
 refine wT [(4, vs x1.1)] [(1000, .box [.s (mI x1.2.1), vb self.bad_])] Q1 J1 rfl ?_
 refine rt ?_
 cases h
 exact ⟨_, _, ⟨rfl, rfl⟩, rfl, rfl, Fz.v⟩
theorem w_pack_ReadInts {p_b} {r} (h : pack_ReadInts p_b = some r) : Pure Tryz.prog 108 [(.s (mI p_b))] (.t [(.s (mU r.1)), (.s (mI r.2.1)), (vi r.2.2)]) := by
 refine po Tryz.tok 41 Tryz.func108 (by kernel_rfl) rfl rfl rfl ?_
 unfold pack_ReadInts at h
 refine wE [(0, .s (mI p_b))] Q1 ?_
 refine sg ?_
 refine wE [(0, .s (mI p_b))] Q1 ?_
 refine sg ?_
 refine wT [(5, .b 10 0)] [(10, .box [.s (mI p_b), vi (0)])] Q1 J1 rfl ?_
 refine sg ?_
 refine wT [(5, .b 10 0), (6, .v (.slice none 0 0))] [(10, .box [.s (mI p_b), vi (0)])] Q2 J1 rfl ?_
 obtain ⟨v1, hv1, h⟩ := bindS h
 refine Ok.seqw ⟨Cat.tab [(5, .b 10 0), (6, .o 19)], [(10, .box [.s (mI v1.1), vi v1.2.1]), (19, .own 3 1 (mU v1.2.2))]⟩ ?_ ?_
 ·refine sg ?_
  obtain ⟨x1, hx1, hv1⟩ := bindS hv1
  refine CallOk.chgLe (id := 10) (w_pack_reader_count hx1) rfl (.box (.cons (lr) (.cons (lr) (.nil)))) rfl (.cons (Lr.b) (.nil)) ?_
  rintro _ _ ⟨rfl, rfl⟩
  refine wT [(5, .b 10 0), (6, .v (.slice none 0 0)), (12, vi x1.1), (13, vi (0))] [(10, .box [.s (mI x1.2.rest_.b_), vi x1.2.e_])] Q4 J1 rfl ?_
  refine bl ?_
  refine Ok.loop (fun (s1 : Int × (List UInt8) × Int × (List Int)) => ⟨Cat.tab [(5, .b 10 0), (6, .o 19), (12, vi x1.1), (13, vi s1.1)], [(10, .box [.s (mI s1.2.1), vi s1.2.2.1]), (19, .own 3 1 (mU s1.2.2.2))]⟩) (pack_ReadInts_B1 x1) (s0 := (0, x1.2.rest_.b_, x1.2.e_, [])) hv1 ((Wk.own0 (t := 6) (id := 19) (E := 3) (K := 1) rfl rfl).trans (wt Q4 ⟨⟨_, rfl, .refl _⟩, ⟨_, rfl, .refl _⟩, Q0⟩ rfl)) ?_
  intro s1 y1 hB1 hy1
  unfold pack_ReadInts_B1 at hB1
  refine sg ?_
  refine wT [(5, .b 10 0), (6, .o 19), (12, vi x1.1), (13, vi s1.1), (14, vb (decide (s1.1 < x1.1)))] [(10, .box [.s (mI s1.2.1), vi s1.2.2.1]), (19, .own 3 1 (mU s1.2.2.2))] Q5 J2 rfl ?_
  refine sq ?_
  refine cn 14 (decide (s1.1 < x1.1)) rfl hB1 (fun hb hB1 => ?_) fun hb hB1 => ?_
  ·refine sk ?_
   refine sq ?_
   refine bl ?_
   refine sg ?_
   obtain ⟨x2, hx2, hB1⟩ := bindS hB1
   refine CallOk.chgLe (id := 10) (w_pack_reader_num hx2) rfl (.box (.cons (lr) (.cons (lr) (.nil)))) rfl (.cons (Lr.b) (.nil)) ?_
   rintro _ _ ⟨rfl, rfl⟩
   obtain ⟨hc1, hB1⟩ := chk_some hB1
   refine Or.inl ⟨rowsLen_map (f := Go.Cat.encI) (n := 1) (fun _ => rfl) ([x2.1]), app_b2 (f := Go.Cat.encI) (l := s1.2.2.2) (l' := [x2.1]) hc1, _, (List.map_append (f := Go.Cat.encI) (l₁ := s1.2.2.2) (l₂ := [x2.1])).symm, ?_⟩
   refine wT [(5, .b 10 0), (6, .o 19), (12, vi x1.1), (13, vi s1.1)] [(10, .box [.s (mI x2.2.rest_.b_), vi x2.2.e_]), (19, .own 3 1 (mU (s1.2.2.2 ++ [x2.1])))] Q4 J2 rfl ?_
   refine sg ?_
   refine ⟨_, rfl, ?_⟩
   refine wT [(5, .b 10 0), (6, .o 19), (12, vi x1.1), (13, vi s1.1), (24, vb (x2.2.e_ != 0))] [(10, .box [.s (mI x2.2.rest_.b_), vi x2.2.e_]), (19, .own 3 1 (mU (s1.2.2.2 ++ [x2.1])))] Q5 J2 rfl ?_
   refine cn 24 (x2.2.e_ != 0) rfl hB1 (fun hb hB1 => ?_) fun hb hB1 => ?_
   ·refine xt ?_
    have hB1 := out_ret hB1 hy1
    cases hB1
    exact wt Q2 J2 rfl
   refine sk ?_
   refine rg ?_
   obtain ⟨hc2, hB1⟩ := chk_some hB1
   refine (Or.inl ⟨hc2, ?_⟩)
   exact ⟨_, sj hB1, wt Q4 J2 rfl⟩
  refine xt ?_
  have hB1 := out_ret hB1 hy1
  cases hB1
  exact wt Q2 J2 rfl
 refine sq ?_
 refine sg ?_
 refine ⟨_, rfl, ?_⟩
 refine wT [(5, .b 10 0), (6, .o 19), (30, vb (v1.2.1 != 0))] [(10, .box [.s (mI v1.1), vi v1.2.1]), (19, .own 3 1 (mU v1.2.2))] Q3 J2 rfl ?_
 refine cn 30 (v1.2.1 != 0) rfl h (fun hb h => ?_) fun hb h => ?_
 ·refine sq ?_
  refine Ok.draw (m := 7) (MD := ⟨[]⟩) (CH := ⟨[]⟩) Tryz.tok Tryz.mixed (by kernel_rfl) ?_
  refine ⟨_, rfl, _, rfl, _, rfl, _, ⟨_, rfl, rfl⟩, _, rfl, _, rfl, _, rfl, Q0, ?_⟩
  refine wE [(2, .v (.slice none 0 0)), (3, .v (.slice none 0 0)), (4, vi v1.2.1)] Q3 ?_
  refine rt ?_
  cases h
  exact (Fz.t (.cons Fz.nil (.cons Fz.nil (.cons Fz.v .nil))))
 refine sk ?_
 refine sq ?_
 refine Ok.draw (m := 9) (MD := ⟨[]⟩) (CH := ⟨[]⟩) Tryz.tok Tryz.mixed (by kernel_rfl) ?_
 refine ⟨_, rfl, _, rfl, _, rfl, _, rfl, _, rfl, _, ⟨_, rfl, rfl⟩, _, rfl, _, rfl, _, rfl, Q0, ?_⟩
 refine wT [(2, .o 19), (3, .s (mI v1.1)), (4, vi (0))] [(19, .own 3 1 (mU v1.2.2))] Q3 J1 rfl ?_
 refine rt ?_
 cases h
 exact (Fz.t (.cons (Fz.o rfl) (.cons Fz.s (.cons Fz.v .nil))))
theorem w_chunk_take_int__pack_ReadInts {self} {r} (h : chunk_take_int__pack_ReadInts self = some r) : PChg Tryz.prog 107 [(.b 1000 0), (.c (.func 108) [] [])] (.box [(.s (mI self.b_)), (vb self.bad_)]) (fun x c => x = (.s (mU r.1)) ∧ c = .box [(.s (mI r.2.b_)), (vb r.2.bad_)]) := by
 refine pchg_of_ok (n := 36) (c := Tryz.f107.body.getD .skip) Tryz.tok Tryz.func107 (by kernel_rfl) rfl rfl (Nat.le_of_ble_eq_true rfl) ?_
 unfold chunk_take_int__pack_ReadInts at h
 refine wT [(0, .b 1000 0), (1, .c (.func 108) [] [])] [(1000, .box [.s (mI self.b_), vb self.bad_])] Q2 J1 rfl ?_
 refine sg ?_
 refine wT [(0, .b 1000 0), (1, .c (.func 108) [] [])] [(1000, .box [.s (mI self.b_), vb self.bad_])] Q2 J1 rfl ?_
 refine sg ?_
 obtain ⟨x1, hx1, h⟩ := bindS h
 refine ⟨_, rfl, ?_⟩
 refine CallOk.call (w_pack_ReadInts hx1) (LeL.refl _) ?_
 refine wT [(0, .b 1000 0), (5, .s (mU x1.1)), (6, .s (mI x1.2.1)), (7, vi x1.2.2)] [(1000, .box [.s (mI self.b_), vb self.bad_])] Q4 J1 rfl ?_
 refine sq ?_
 obtain ⟨v1, hv1, h⟩ := bindS h
 refine Ok.seqw ⟨Cat.tab [(0, .b 1000 0), (5, .s (mU x1.1)), (6, .s (mI x1.2.1)), (26, vb v1)], [(1000, .box [.s (mI self.b_), vb self.bad_])]⟩ ?_ ?_
 ·refine rg ?_
  refine ⟨_, rfl, ?_⟩
  obtain ⟨c1, hg1, hv1⟩ := bindS hv1
  refine Br.itf hg1 (fun hb hg1 => ?_) fun hb hg1 => ?_
  ·cases hg1
   cases hv1
   exact wt Q4 J1 rfl
  cases hg1
  cases hv1
  exact wt Q4 J1 rfl
 refine cn 26 (v1) rfl h (fun hb h => ?_) fun hb h => ?_
 ·refine sg ?_
  refine ⟨_, rfl, ?_⟩
  refine wT [] [(1000, .box [.s (mI self.b_), vb true])] Q0 J1 rfl ?_
  refine sg ?_
  refine wT [(8, .v (.slice none 0 0))] [(1000, .box [.s (mI self.b_), vb true])] Q1 J1 rfl ?_
  refine sg ?_
  refine wT [(4, .v (.slice none 0 0))] [(1000, .box [.s (mI self.b_), vb true])] Q1 J1 rfl ?_
  refine rt ?_
  cases h
  exact ⟨_, _, ⟨rfl, rfl⟩, rfl, rfl, Fz.nil⟩
 refine sk ?_
 refine sg ?_
 refine ⟨_, rfl, ?_⟩
 refine wT [(5, .s (mU x1.1))] [(1000, .box [.s (mI x1.2.1), vb self.bad_])] Q1 J1 rfl ?_
 refine sg ?_
 refine wT [(4, .s (mU x1.1))] [(1000, .box [.s (mI x1.2.1), vb self.bad_])] Q1 J1 rfl ?_
 refine rt ?_
 cases h
 exact ⟨_, _, ⟨rfl, rfl⟩, rfl, rfl, Fz.s⟩
theorem w_chunk_reader_copy {self} {r} (h : chunk_reader_copy self = some r) : PChg Tryz.prog 71 [(.b 1000 0)] (.box [(.s (mI self.b_)), (vb self.bad_)]) (fun x c => x = (.t [(.a [(vi r.1.1.Id), (vi r.1.1.Ver), (.s (mI r.1.1.Data)), (.s (mU r.1.1.Sums))]), (vb r.1.2)]) ∧ c = .box [(.s (mI r.2.b_)), (vb r.2.bad_)]) := by
 refine pchg_of_ok (n := 34) (c := Tryz.f71.body.getD .skip) Tryz.tok Tryz.func71 (by kernel_rfl) rfl rfl (Nat.le_of_ble_eq_true rfl) ?_
 unfold chunk_reader_copy at h
 refine wT [(0, .b 1000 0)] [(1000, .box [.s (mI self.b_), vb self.bad_])] Q1 J1 rfl ?_
 refine sg ?_
 refine wT [(0, .b 1000 0), (2, .b 2 0)] [(1000, .box [.s (mI self.b_), vb self.bad_]), (2, .box [vi (0), vi (0), .v (.slice none 0 0), .v (.slice none 0 0)])] Q2 J2 rfl ?_
 refine sg ?_
 refine wT [(0, .b 1000 0), (2, .b 2 0), (4, .c (.func 104) [.b 1000 0] [])] [(1000, .box [.s (mI self.b_), vb self.bad_]), (2, .box [vi (0), vi (0), .v (.slice none 0 0), .v (.slice none 0 0)])] Q3 J2 rfl ?_
 refine sg ?_
 obtain ⟨x1, hx1, h⟩ := bindS h
 refine CallOk.chgLe (id := 1000) (w_chunk_reader_int hx1) rfl (.box (.cons (lr) (.cons (lr) (.nil)))) rfl (.cons (Lr.b) (.nil)) ?_
 rintro _ _ ⟨rfl, rfl⟩
 obtain ⟨x2, hx2, h⟩ := bindS h
 refine CallOk.chgLe (id := 1000) (w_chunk_reader_int hx2) rfl (.box (.cons (lr) (.cons (lr) (.nil)))) rfl (.cons (Lr.b) (.nil)) ?_
 rintro _ _ ⟨rfl, rfl⟩
 refine ⟨_, rfl, ?_⟩
 refine wT [(0, .b 1000 0), (2, .b 2 0), (5, .b 5 0)] [(1000, .box [.s (mI x2.2.b_), vb x2.2.bad_]), (2, .box [vi (0), vi (0), .v (.slice none 0 0), .v (.slice none 0 0)]), (5, .box [vi x1.1, vi x2.1, .v (.slice none 0 0), .v (.slice none 0 0)])] Q3 J3 rfl ?_
 refine sg ?_
 obtain ⟨x3, hx3, h⟩ := bindS h
 refine CallOk.chgLe (id := 1000) (w_chunk_take_string__pack_ReadStr hx3) rfl (.box (.cons (lr) (.cons (lr) (.nil)))) rfl (.cons (Lr.b) (.cons (Lr.imm rfl) (.nil))) ?_
 rintro _ _ ⟨rfl, rfl⟩
 obtain ⟨hc1, h⟩ := chk_some h
 refine ⟨str_max hc1, _, rfl, ?_⟩
 refine wT [(0, .b 1000 0), (2, .b 2 0), (5, .b 5 0)] [(1000, .box [.s (mI x3.2.b_), vb x3.2.bad_]), (2, .box [vi (0), vi (0), .v (.slice none 0 0), .v (.slice none 0 0)]), (5, .box [vi x1.1, vi x2.1, .s (mI x3.1), .v (.slice none 0 0)])] Q3 J3 rfl ?_
 refine sg ?_
 obtain ⟨x4, hx4, h⟩ := bindS h
 refine CallOk.chgLe (id := 1000) (w_chunk_take_int__pack_ReadInts hx4) rfl (.box (.cons (lr) (.cons (lr) (.nil)))) rfl (.cons (Lr.b) (.cons (Lr.imm rfl) (.nil))) ?_
 rintro _ _ ⟨rfl, rfl⟩
 refine ⟨_, rfl, ?_⟩
 refine wT [(0, .b 1000 0), (2, .b 2 0), (5, .b 5 0)] [(1000, .box [.s (mI x4.2.b_), vb x4.2.bad_]), (2, .box [vi (0), vi (0), .v (.slice none 0 0), .v (.slice none 0 0)]), (5, .box [vi x1.1, vi x2.1, .s (mI x3.1), .s (mU x4.1)])] Q3 J3 rfl ?_
 obtain ⟨v1, hv1, h⟩ := bindS h
 refine Ok.seqw ⟨Cat.tab [(2, .b 2 0), (3, vb v1)], [(2, .box [vi x1.1, vi x2.1, .s (mI x3.1), .s (mU x4.1)]), (1000, .box [.s (mI x4.2.b_), vb x4.2.bad_])]⟩ ?_ ?_
 ·refine Ok.draw2 (m := 14) (late := [7, 8, 9, 10, 11, 12, 13]) (MD := ⟨[]⟩) (CH := ⟨[]⟩) Tryz.tok Tryz.mixed (by kernel_rfl) ?_
  refine ⟨_, ⟨_, rfl, rfl⟩, _, rfl, _, rfl, _, rfl, _, ⟨_, rfl, rfl⟩, _, rfl, _, rfl, ?_⟩
  obtain ⟨c1, hg1, hv1⟩ := bindS hv1
  refine Br.ite hg1 (fun hb hg1 => ?_) fun hb hg1 => ?_
  ·refine ⟨_, rfl, _, rfl, _, rfl, _, ⟨_, rfl, rfl⟩, _, ⟨_, List.length_map _, fun _ => rfl⟩, _, rfl, ?_⟩
   cases hg1
   refine ⟨_, rfl, ?_⟩
   refine ⟨Q0, ?_⟩
   refine ⟨_, rfl, ⟨⟨_, rfl, _, rfl, .inl ⟨rfl, rfl⟩⟩, ⟨_, rfl, _, rfl, .inl ⟨rfl, rfl⟩⟩, ⟨_, rfl, _, rfl, .inl ⟨rfl, rfl⟩⟩, ⟨_, rfl, _, rfl, .inl ⟨rfl, _, rfl, rfl⟩⟩, ⟨_, rfl, _, rfl, .inl ⟨rfl, _, List.length_map _, fun _ => rfl⟩⟩, ⟨_, rfl, _, rfl, .inl ⟨rfl, rfl⟩⟩, ⟨_, rfl, rfl⟩, Q0⟩, ?_⟩
   cases hv1
   exact wt Q2 J2 rfl
  cases hg1
  refine ⟨_, rfl, ?_⟩
  refine ⟨Q0, ?_⟩
  refine ⟨_, rfl, ⟨⟨_, rfl, _, rfl, .inr (.inl ⟨rfl, rfl⟩)⟩, ⟨_, rfl, _, rfl, .inr (.inl ⟨rfl, rfl⟩)⟩, ⟨_, rfl, _, rfl, .inr (.inl ⟨rfl, rfl⟩)⟩, ⟨_, rfl, _, rfl, .inr (.inl ⟨rfl, rfl⟩)⟩, ⟨_, rfl, _, rfl, .inr (.inl ⟨rfl, rfl⟩)⟩, ⟨_, rfl, _, rfl, .inr (.inl ⟨rfl, rfl⟩)⟩, ⟨_, rfl, rfl⟩, Q0⟩, ?_⟩
  cases hv1
  exact wt Q2 J2 rfl
 refine rt ?_
 cases h
 exact ⟨_, rfl, _, _, ⟨rfl, rfl⟩, rfl, rfl, (Fz.t (.cons (Fz.imm rfl) (.cons Fz.v .nil)))⟩
theorem w_sum_half_1 {p_c} {r} (h : sum_half_1 p_c = some r) : Pure Tryz.prog 168 [(.v (.int .u32 p_c))] (.v (.int .u32 r)) := by
 refine po Tryz.tok 11 Tryz.func168 (by kernel_rfl) rfl rfl rfl ?_
 unfold sum_half_1 at h
 refine wE [(0, .v (.int .u32 p_c))] Q1 ?_
 refine sg ?_
 refine wE [(0, .v (.int .u32 p_c))] Q1 ?_
 refine sq ?_
 refine sg ?_
 refine ⟨_, rfl, ?_⟩
 refine wE [(0, .v (.int .u32 p_c)), (5, vb ((andK .u32 p_c (1)) == 1))] Q2 ?_
 refine cn 5 ((andK .u32 p_c (1)) == 1) rfl h (fun hb h => ?_) fun hb h => ?_
 ·refine sg ?_
  refine ⟨(by decide), _, rfl, _, rfl, ?_⟩
  refine wE [(2, .v (.int .u32 (xorK .u32 (shrK .u32 p_c (1)) (2197175160))))] Q1 ?_
  refine rt ?_
  cases h
  exact Fz.v
 refine sk ?_
 refine sg ?_
 refine ⟨(by decide), _, rfl, ?_⟩
 refine wE [(2, .v (.int .u32 (shrK .u32 p_c (1))))] Q1 ?_
 refine rt ?_
 cases h
 exact Fz.v
theorem w_sum_half {r} (h : sum_half = some r) : Pure Tryz.prog 153 [] (.a (List.map a_u32 r)) := by
 refine po Tryz.tok 21 Tryz.func153 (by kernel_rfl) rfl rfl rfl ?_
 unfold sum_half at h
 refine wE [] Q0 ?_
 refine sg ?_
 refine wT [(0, .b 0 0)] [(0, .box (List.map a_u32 (List.replicate 16 0)))] Q1 J1 rfl ?_
 refine sg ?_
 refine wT [(0, .b 0 0), (1, .b 1 0)] [(0, .box (List.map a_u32 (List.replicate 16 0))), (1, .box (List.map a_u32 (List.replicate 16 0)))] Q2 ⟨⟨_, rfl, .arr1 (fun _ _ => rfl)⟩, J1⟩ rfl ?_
 refine sg ?_
 refine wT [(0, .b 0 0), (1, .b 1 0), (2, .c (.func 168) [] [])] [(0, .box (List.map a_u32 (List.replicate 16 0))), (1, .box (List.map a_u32 (List.replicate 16 0)))] Q3 J2 rfl ?_
 obtain ⟨v1, hv1, h⟩ := bindS h
 refine Ok.seqw ⟨Cat.tab [(0, .b 0 0), (1, .b 1 0)], [(0, .box (List.map a_u32 (List.replicate 16 0))), (1, .box (List.map a_u32 v1))]⟩ ?_ ?_
 ·refine sg ?_
  refine wT [(0, .b 0 0), (1, .b 1 0), (2, .c (.func 168) [] []), (5, vi (0))] [(0, .box (List.map a_u32 (List.replicate 16 0))), (1, .box (List.map a_u32 (List.replicate 16 0)))] Q4 J2 rfl ?_
  refine bl ?_
  refine Ok.loop (fun (s1 : Int × (List Int)) => ⟨Cat.tab [(0, .b 0 0), (1, .b 1 0), (2, .c (.func 168) [] []), (5, vi s1.1)], [(0, .box (List.map a_u32 (List.replicate 16 0))), (1, .box (List.map a_u32 s1.2))]⟩) (sum_half_B1) (s0 := (0, List.replicate 16 0)) hv1 (wt Q4 ⟨⟨_, rfl, .refl _⟩, ⟨_, rfl, .refl _⟩, Q0⟩ rfl) ?_
  intro s1 y1 hB1 hy1
  unfold sum_half_B1 at hB1
  refine sg ?_
  refine wT [(0, .b 0 0), (1, .b 1 0), (2, .c (.func 168) [] []), (5, vi s1.1), (6, vb (decide (s1.1 < 16)))] [(0, .box (List.map a_u32 (List.replicate 16 0))), (1, .box (List.map a_u32 s1.2))] Q5 J2 rfl ?_
  refine sq ?_
  refine cn 6 (decide (s1.1 < 16)) rfl hB1 (fun hb hB1 => ?_) fun hb hB1 => ?_
  ·refine sk ?_
   obtain ⟨v2, hv2, hB1⟩ := bindS hB1
   refine Ok.seqw ⟨Cat.tab [(0, .b 0 0), (1, .b 1 0), (2, .c (.func 168) [] []), (5, vi s1.1)], [(0, .box (List.map a_u32 (List.replicate 16 0))), (1, .box (List.map a_u32 v2))]⟩ ?_ ?_
   ·refine bl ?_
    refine sg ?_
    refine wT [(0, .b 0 0), (1, .b 1 0), (2, .c (.func 168) [] []), (3, vi s1.1), (5, vi s1.1)] [(0, .box (List.map a_u32 (List.replicate 16 0))), (1, .box (List.map a_u32 s1.2))] Q5 J2 rfl ?_
    refine sg ?_
    refine ⟨_, rfl, ?_⟩
    refine wT [(0, .b 0 0), (1, .b 1 0), (2, .c (.func 168) [] []), (3, vi s1.1), (4, .v (.int .u32 (IntKind.u32.wrap s1.1))), (5, vi s1.1)] [(0, .box (List.map a_u32 (List.replicate 16 0))), (1, .box (List.map a_u32 s1.2))] Q6 J2 rfl ?_
    obtain ⟨v3, hv3, hv2⟩ := bindS hv2
    refine Ok.seqw ⟨Cat.tab [(0, .b 0 0), (1, .b 1 0), (2, .c (.func 168) [] []), (3, vi s1.1), (4, .v (.int .u32 v3)), (5, vi s1.1)], [(0, .box (List.map a_u32 (List.replicate 16 0))), (1, .box (List.map a_u32 s1.2))]⟩ ?_ ?_
    ·refine sg ?_
     refine wT [(0, .b 0 0), (1, .b 1 0), (2, .c (.func 168) [] []), (3, vi s1.1), (4, .v (.int .u32 (IntKind.u32.wrap s1.1))), (5, vi s1.1), (10, vi (0))] [(0, .box (List.map a_u32 (List.replicate 16 0))), (1, .box (List.map a_u32 s1.2))] Q7 J2 rfl ?_
     refine bl ?_
     refine Ok.loop (fun (s2 : Int × Int) => ⟨Cat.tab [(0, .b 0 0), (1, .b 1 0), (2, .c (.func 168) [] []), (3, vi s1.1), (4, .v (.int .u32 s2.1)), (5, vi s1.1), (10, vi s2.2)], [(0, .box (List.map a_u32 (List.replicate 16 0))), (1, .box (List.map a_u32 s1.2))]⟩) (sum_half_B2) (s0 := ((IntKind.u32.wrap s1.1), 0)) hv3 (wt Q7 ⟨⟨_, rfl, .refl _⟩, ⟨_, rfl, .refl _⟩, Q0⟩ rfl) ?_
     intro s2 y2 hB2 hy2
     unfold sum_half_B2 at hB2
     refine sg ?_
     refine wT [(0, .b 0 0), (1, .b 1 0), (2, .c (.func 168) [] []), (3, vi s1.1), (4, .v (.int .u32 s2.1)), (5, vi s1.1), (10, vi s2.2), (11, vb (decide (s2.2 < 4)))] [(0, .box (List.map a_u32 (List.replicate 16 0))), (1, .box (List.map a_u32 s1.2))] Q8 J2 rfl ?_
     refine sq ?_
     refine cn 11 (decide (s2.2 < 4)) rfl hB2 (fun hb hB2 => ?_) fun hb hB2 => ?_
     ·refine sk ?_
      refine sq ?_
      refine bl ?_
      refine rg ?_
      obtain ⟨x1, hx1, hB2⟩ := bindS hB2
      refine CallOk.call (w_sum_half_1 hx1) (LeL.refl _) ?_
      refine wT [(0, .b 0 0), (1, .b 1 0), (2, .c (.func 168) [] []), (3, vi s1.1), (4, .v (.int .u32 x1)), (5, vi s1.1), (10, vi s2.2)] [(0, .box (List.map a_u32 (List.replicate 16 0))), (1, .box (List.map a_u32 s1.2))] Q7 J2 rfl ?_
      refine rg ?_
      obtain ⟨hc1, hB2⟩ := chk_some hB2
      refine (Or.inl ⟨hc1, ?_⟩)
      exact ⟨_, sj hB2, wt Q7 J2 rfl⟩
     refine xt ?_
     have hB2 := out_ret hB2 hy2
     cases hB2
     exact wt Q6 J2 rfl
    refine rg ?_
    obtain ⟨x2, hx2, hv2⟩ := bindS hv2
    obtain ⟨hc2, hv2⟩ := chk_some hv2
    refine ⟨_, idx_nat hx2, arr_lt hx2 hc2, bif_of (arr_st hx2) ⟨_, arr_set hx2, ?_⟩⟩
    cases hv2
    exact wt Q4 J2 rfl
   refine rg ?_
   obtain ⟨hc3, hB1⟩ := chk_some hB1
   refine (Or.inl ⟨hc3, ?_⟩)
   exact ⟨_, sj hB1, wt Q4 J2 rfl⟩
  refine xt ?_
  have hB1 := out_ret hB1 hy1
  cases hB1
  exact wt Q2 J2 rfl
 refine sg ?_
 obtain ⟨hc4, h⟩ := chk_some h
 obtain ⟨hc5, h⟩ := chk_some h
 refine bif_of (arr_len hc4) ⟨_, arr_all hc4, bif_of (arr_sto (f := a_u32) (l := v1) (l0 := List.replicate 16 0) rfl hc5 (by rfl)) ⟨_, arr_seq (f := a_u32) (l := v1) (l0 := List.replicate 16 0) rfl (by rfl), ?_⟩⟩
 refine wT [(0, .b 0 0)] [(0, .box (List.map a_u32 v1))] Q1 J1 rfl ?_
 refine rt ?_
 obtain ⟨hl1, h⟩ := chk_some h
 cases h
 exact bif_of (arr_len hl1) ⟨_, arr_all hl1, (Fz.arr (fun _ => rfl))⟩
theorem w_sum_of {p_t} {p_b} {r} (h : sum_of p_t p_b = some r) : Pure Tryz.prog 152 [(.a (List.map a_u32 p_t)), (.s (mI p_b))] (vi r) := by
 refine po Tryz.tok 36 Tryz.func152 (by kernel_rfl) rfl rfl rfl ?_
 unfold sum_of at h
 refine wE [(0, .a (List.map a_u32 p_t)), (1, .s (mI p_b))] Q2 ?_
 refine sg ?_
 refine wT [(1, .s (mI p_b)), (2, .b 2 0)] [(2, .box (List.map a_u32 p_t))] Q2 ⟨⟨_, rfl, .arr1 (fun _ _ => rfl)⟩, Q0⟩ rfl ?_
 refine sg ?_
 refine wT [(1, .s (mI p_b)), (2, .b 2 0), (5, .v (.int .u32 (4294967295)))] [(2, .box (List.map a_u32 p_t))] Q3 J1 rfl ?_
 obtain ⟨v1, hv1, h⟩ := bindS h
 refine Ok.seqw ⟨Cat.tab [(5, .v (.int .u32 v1))], []⟩ ?_ ?_
 ·refine sg ?_
  refine ⟨_, List.length_map _, fun _ => ?_⟩
  refine wT [(2, .b 2 0), (5, .v (.int .u32 (4294967295))), (8, .s (mI p_b)), (9, vi (p_b.length : Int)), (10, vi (0))] [(2, .box (List.map a_u32 p_t))] Q5 J1 rfl ?_
  refine bl ?_
  refine Ok.loop (fun (s1 : Int × Int) => ⟨Cat.tab [(2, .b 2 0), (5, .v (.int .u32 s1.1)), (8, .s (mI p_b)), (9, vi (p_b.length : Int)), (10, vi s1.2)], [(2, .box (List.map a_u32 p_t))]⟩) (sum_of_B1 p_b p_t) (s0 := (4294967295, 0)) hv1 (wt Q5 ⟨⟨_, rfl, .refl _⟩, Q0⟩ rfl) ?_
  intro s1 y1 hB1 hy1
  unfold sum_of_B1 at hB1
  refine sg ?_
  refine wT [(2, .b 2 0), (5, .v (.int .u32 s1.1)), (8, .s (mI p_b)), (9, vi (p_b.length : Int)), (10, vi s1.2), (11, vb (decide (s1.2 < (p_b.length : Int))))] [(2, .box (List.map a_u32 p_t))] Q6 J1 rfl ?_
  refine sq ?_
  refine cn 11 (decide (s1.2 < (p_b.length : Int))) rfl hB1 (fun hb hB1 => ?_) fun hb hB1 => ?_
  ·refine sk ?_
   refine sq ?_
   refine bl ?_
   refine sg ?_
   obtain ⟨x1, hx1, hB1⟩ := bindS hB1
   refine ⟨_, idx_nat hx1, _, idx_row hx1, _, rfl, ?_⟩
   refine wT [(2, .b 2 0), (5, .v (.int .u32 s1.1)), (7, vu x1), (8, .s (mI p_b)), (9, vi (p_b.length : Int)), (10, vi s1.2)] [(2, .box (List.map a_u32 p_t))] Q6 J1 rfl ?_
   refine sg ?_
   refine ⟨_, wrap_of_u8 (k := .u32) (by decide) _, _, rfl, ?_⟩
   refine wT [(2, .b 2 0), (5, .v (.int .u32 (xorK .u32 s1.1 (x1.toNat : Int)))), (8, .s (mI p_b)), (9, vi (p_b.length : Int)), (10, vi s1.2)] [(2, .box (List.map a_u32 p_t))] Q5 J1 rfl ?_
   refine sg ?_
   obtain ⟨x2, hx2, hB1⟩ := bindS hB1
   obtain ⟨hc1, hB1⟩ := chk_some hB1
   refine ⟨_, rfl, _, idx_nat hx2, arr_lt hx2 hc1, bif_of (arr_ble hx2) ⟨_, arr_get hx2, (by decide), _, rfl, _, rfl, ?_⟩⟩
   refine wT [(2, .b 2 0), (5, .v (.int .u32 (xorK .u32 x2 (shrK .u32 (xorK .u32 s1.1 (x1.toNat : Int)) (4))))), (8, .s (mI p_b)), (9, vi (p_b.length : Int)), (10, vi s1.2)] [(2, .box (List.map a_u32 p_t))] Q5 J1 rfl ?_
   refine rg ?_
   obtain ⟨x3, hx3, hB1⟩ := bindS hB1
   obtain ⟨hc2, hB1⟩ := chk_some hB1
   refine ⟨_, rfl, _, idx_nat hx3, arr_lt hx3 hc2, bif_of (arr_ble hx3) ⟨_, arr_get hx3, (by decide), _, rfl, _, rfl, ?_⟩⟩
   refine wT [(2, .b 2 0), (5, .v (.int .u32 (xorK .u32 x3 (shrK .u32 (xorK .u32 x2 (shrK .u32 (xorK .u32 s1.1 (x1.toNat : Int)) (4))) (4))))), (8, .s (mI p_b)), (9, vi (p_b.length : Int)), (10, vi s1.2)] [(2, .box (List.map a_u32 p_t))] Q5 J1 rfl ?_
   refine rg ?_
   obtain ⟨hc3, hB1⟩ := chk_some hB1
   refine (Or.inl ⟨hc3, ?_⟩)
   exact ⟨_, sj hB1, wt Q5 J1 rfl⟩
  refine xt ?_
  have hB1 := out_ret hB1 hy1
  cases hB1
  exact wt Q1 Q0 rfl
 refine sg ?_
 refine ⟨_, rfl, _, rfl, ?_⟩
 refine wE [(4, vi (IntKind.i64.wrap (xorK .u32 v1 (4294967295))))] Q1 ?_
 refine rt ?_
 cases h
 exact Fz.v
theorem wo_sum_Blocks {p_data} {r} (h : sum_Blocks p_data = some r) : POwn Tryz.prog 149 [(.s (mI p_data))] 3 1 (mU r) := by
 refine pw Tryz.tok 25 Tryz.func149 (by kernel_rfl) rfl rfl rfl ?_
 unfold sum_Blocks at h
 refine wE [(0, .s (mI p_data))] Q1 ?_
 refine sg ?_
 refine wE [(0, .s (mI p_data))] Q1 ?_
 refine sg ?_
 obtain ⟨x1, hx1, h⟩ := bindS h
 refine CallOk.call (w_sum_half hx1) (LeL.refl _) ?_
 obtain ⟨hc1, h⟩ := chk_some h
 refine bif_of (arr_sto (f := a_u32) (l := x1) (l0 := List.replicate 16 0) (er_map (fun _ _ => rfl) _ _) hc1 (by rfl)) ⟨_, arr_seq (f := a_u32) (l := x1) (l0 := List.replicate 16 0) (er_map (fun _ _ => rfl) _ _) (by rfl), ?_⟩
 refine wT [(0, .s (mI p_data)), (3, .b 3 0)] [(3, .box (List.map a_u32 x1))] Q2 J1 rfl ?_
 refine sg ?_
 refine wT [(0, .s (mI p_data)), (3, .b 3 0), (4, .v (.slice none 0 0))] [(3, .box (List.map a_u32 x1))] Q3 J1 rfl ?_
 obtain ⟨v1, hv1, h⟩ := bindS h
 refine Ok.seqw ⟨Cat.tab [(4, .o 20)], [(20, .own 3 1 (mU v1))]⟩ ?_ ?_
 ·refine bl ?_
  refine Ok.loop (fun (s1 : (List UInt8) × (List Int)) => ⟨Cat.tab [(0, .s (mI s1.1)), (3, .b 3 0), (4, .o 20)], [(3, .box (List.map a_u32 x1)), (20, .own 3 1 (mU s1.2))]⟩) (sum_Blocks_B1 x1) (s0 := (p_data, [])) hv1 ((Wk.own0 (t := 4) (id := 20) (E := 3) (K := 1) rfl rfl).trans (wt Q3 ⟨⟨_, rfl, .arr1 (fun _ _ => rfl)⟩, ⟨_, rfl, .refl _⟩, Q0⟩ rfl)) ?_
  intro s1 y1 hB1 hy1
  unfold sum_Blocks_B1 at hB1
  refine sq ?_
  refine sg ?_
  refine ⟨_, List.length_map _, fun _ => ?_⟩
  refine wT [(0, .s (mI s1.1)), (3, .b 3 0), (4, .o 20), (9, vb (decide ((s1.1.length : Int) > 0)))] [(3, .box (List.map a_u32 x1)), (20, .own 3 1 (mU s1.2))] Q4 J2 rfl ?_
  refine cn 9 (decide ((s1.1.length : Int) > 0)) rfl hB1 (fun hb hB1 => ?_) fun hb hB1 => ?_
  ·refine sk ?_
   refine bl ?_
   refine sg ?_
   refine ⟨_, List.length_map _, fun _ => ⟨_, rfl, ?_⟩⟩
   refine wT [(0, .s (mI s1.1)), (3, .b 3 0), (4, .o 20), (5, vi (min (s1.1.length : Int) (16)))] [(3, .box (List.map a_u32 x1)), (20, .own 3 1 (mU s1.2))] Q4 J2 rfl ?_
   refine sq ?_
   refine Ok.draw (m := 7) (MD := ⟨[]⟩) (CH := ⟨[]⟩) Tryz.tok Tryz.mixed (by kernel_rfl) ?_
   obtain ⟨hc2, hB1⟩ := chk_some hB1
   obtain ⟨hc3, hB1⟩ := chk_some hB1
   obtain ⟨x2, hx2, hB1⟩ := bindS hB1
   obtain ⟨hc4, hB1⟩ := chk_some hB1
   refine ⟨_, rfl, _, bif_of (arr_len hc2) ⟨_, arr_all hc2, rfl⟩, _, rfl, _, rfl, _, ⟨_, sl_nat hc3.1, Nat.zero_le _, sl_len hc3, rowsK (f := cU8) (K := 1) (fun _ => rfl) s1.1, _, sl_take _ _ _, rfl⟩, _, ⟨_, .of_pure (w_sum_of hx2) (LeL.refl _), rfl⟩, _, rfl, Q0, rowsLen_map (f := Go.Cat.encI) (n := 1) (fun _ => rfl) ([x2]), app_b2 (f := Go.Cat.encI) (l := s1.2) (l' := [x2]) hc4, _, (List.map_append (f := Go.Cat.encI) (l₁ := s1.2) (l₂ := [x2])).symm, ?_⟩
   refine wT [(0, .s (mI s1.1)), (3, .b 3 0), (4, .o 20), (5, vi (min (s1.1.length : Int) (16)))] [(3, .box (List.map a_u32 x1)), (20, .own 3 1 (mU (s1.2 ++ [x2])))] Q4 ⟨⟨_, rfl, .arr1 (fun _ _ => rfl)⟩, J1⟩ rfl ?_
   refine rg ?_
   obtain ⟨hc5, hB1⟩ := chk_some hB1
   refine ⟨_, sl_nat hc5.1, sl_len hc5, Nat.le_refl _, rowsK (f := cU8) (K := 1) (fun _ => rfl) s1.1, _, sl_drop _ _ _, ?_⟩
   exact ⟨_, sj hB1, wt Q3 J2 rfl⟩
  refine xt ?_
  have hB1 := out_ret hB1 hy1
  cases hB1
  exact wt Q1 J1 rfl
 refine sg ?_
 refine wT [(2, .o 20)] [(20, .own 3 1 (mU v1))] Q1 J1 rfl ?_
 refine rt ?_
 cases h
 exact (.inr ⟨_, rfl, rfl⟩)
theorem w_sum_Blocks {p_data} {r} (h : sum_Blocks p_data = some r) : Pure Tryz.prog 149 [(.s (mI p_data))] (.s (mU r)) := (wo_sum_Blocks h).pure
theorem w_sum_Check {p_data} {p_sums} {r} (h : sum_Check p_data p_sums = some r) : Pure Tryz.prog 109 [(.s (mI p_data)), (.s (mU p_sums))] (vi r) := by
 refine po Tryz.tok 38 Tryz.func109 (by kernel_rfl) rfl rfl rfl ?_
 unfold sum_Check at h
 refine wE [(0, .s (mI p_data)), (1, .s (mU p_sums))] Q2 ?_
 refine sg ?_
 refine wE [(0, .s (mI p_data)), (1, .s (mU p_sums))] Q2 ?_
 refine sg ?_
 obtain ⟨x1, hx1, h⟩ := bindS h
 refine CallOk.call (w_sum_Blocks hx1) (LeL.refl _) ?_
 refine wE [(1, .s (mU p_sums)), (5, .s (mU x1))] Q2 ?_
 refine Ok.seqj (fun v1 => ⟨Cat.tab [(1, .s (mU p_sums)), (5, .s (mU x1))], []⟩) (fun v1 => sum_Check_J1 x1 p_sums v1 = some r) ?_ ?_
 ·refine sg ?_
  refine ⟨_, List.length_map _, fun _ => ⟨_, List.length_map _, fun _ => ⟨_, rfl, ?_⟩⟩⟩
  refine wE [(1, .s (mU p_sums)), (5, .s (mU x1)), (13, vi (min (x1.length : Int) (p_sums.length : Int))), (14, vi (0))] Q4 ?_
  refine bl ?_
  refine Ok.loop (fun (s1 : Int) => ⟨Cat.tab [(1, .s (mU p_sums)), (5, .s (mU x1)), (13, vi (min (x1.length : Int) (p_sums.length : Int))), (14, vi s1)], []⟩) (sum_Check_B1 x1 p_sums) (s0 := 0) h (wt Q4 Q0 rfl) ?_
  intro s1 y1 hB1 hy1
  unfold sum_Check_B1 at hB1
  refine sg ?_
  refine wE [(1, .s (mU p_sums)), (5, .s (mU x1)), (13, vi (min (x1.length : Int) (p_sums.length : Int))), (14, vi s1), (15, vb (decide (s1 < (min (x1.length : Int) (p_sums.length : Int)))))] Q5 ?_
  refine sq ?_
  refine cn 15 (decide (s1 < (min (x1.length : Int) (p_sums.length : Int)))) rfl hB1 (fun hb hB1 => ?_) fun hb hB1 => ?_
  ·refine sk ?_
   refine sq ?_
   refine bl ?_
   refine sg ?_
   refine wE [(1, .s (mU p_sums)), (5, .s (mU x1)), (6, vi s1), (13, vi (min (x1.length : Int) (p_sums.length : Int))), (14, vi s1)] Q5 ?_
   refine sq ?_
   refine Ok.draw (m := 9) (MD := ⟨[]⟩) (CH := ⟨[]⟩) Tryz.tok Tryz.mixed (by kernel_rfl) ?_
   obtain ⟨x2, hx2, hB1⟩ := bindS hB1
   obtain ⟨x3, hx3, hB1⟩ := bindS hB1
   refine ⟨_, rfl, _, rfl, _, ⟨_, idx_nat hx2, _, idx_row hx2, rfl⟩, _, ⟨_, rfl, rfl⟩, _, rfl, _, rfl, _, ⟨_, idx_nat hx3, _, idx_row hx3, rfl⟩, _, ⟨_, rfl, rfl⟩, _, rfl, Q0, ?_⟩
   refine wE [(1, .s (mU p_sums)), (5, .s (mU x1)), (6, vi s1), (13, vi (min (x1.length : Int) (p_sums.length : Int))), (14, vi s1), (25, vb (x2 != x3))] Q6 ?_
   refine cn 25 (x2 != x3) rfl hB1 (fun hb hB1 => ?_) fun hb hB1 => ?_
   ·refine sg ?_
    refine wE [(4, vi s1)] Q1 ?_
    refine rt ?_
    have hB1 := out_ret hB1 hy1
    cases hB1
    exact Fz.v
   refine sk ?_
   refine rg ?_
   obtain ⟨hc1, hB1⟩ := chk_some hB1
   refine (Or.inl ⟨hc1, ?_⟩)
   exact ⟨_, sj hB1, wt Q4 Q0 rfl⟩
  refine xt ?_
  have hB1 := out_ret hB1 hy1
  exact ⟨_, hB1, wt Q2 Q0 rfl⟩
 intro v1 h
 unfold sum_Check_J1 at h
 refine sq ?_
 refine sg ?_
 refine ⟨_, List.length_map _, fun _ => ⟨_, List.length_map _, fun _ => ?_⟩⟩
 refine wE [(1, .s (mU p_sums)), (5, .s (mU x1)), (32, vb ((x1.length : Int) != (p_sums.length : Int)))] Q3 ?_
 refine cn 32 ((x1.length : Int) != (p_sums.length : Int)) rfl h (fun hb h => ?_) fun hb h => ?_
 ·refine sg ?_
  refine ⟨_, List.length_map _, fun _ => ⟨_, List.length_map _, fun _ => ⟨_, rfl, ?_⟩⟩⟩
  refine wE [(4, vi (min (x1.length : Int) (p_sums.length : Int)))] Q1 ?_
  refine rt ?_
  cases h
  exact Fz.v
 refine sk ?_
 refine sg ?_
 refine wE [(4, vi (-1))] Q1 ?_
 refine rt ?_
 cases h
 exact Fz.v
theorem w_chunk_may {p_c} {r} (h : chunk_may p_c = some r) : Pure Tryz.prog 72 [(.a [(vi p_c.Id), (vi p_c.Ver), (.s (mI p_c.Data)), (.s (mU p_c.Sums))])] (vb r) := by
 refine po Tryz.tok 30 Tryz.func72 (by kernel_rfl) rfl rfl rfl ?_
 unfold chunk_may at h
 refine wE [(0, .a [vi p_c.Id, vi p_c.Ver, .s (mI p_c.Data), .s (mU p_c.Sums)])] Q1 ?_
 refine sg ?_
 refine wT [(1, .b 1 0)] [(1, .box [vi p_c.Id, vi p_c.Ver, .s (mI p_c.Data), .s (mU p_c.Sums)])] Q1 J1 rfl ?_
 obtain ⟨v1, hv1, h⟩ := bindS h
 refine Ok.seqw ⟨Cat.tab [(2, vb v1)], []⟩ ?_ ?_
 ·refine rg ?_
  obtain ⟨x1, hx1, hv1⟩ := bindS hv1
  refine ⟨_, rfl, ?_⟩
  refine CallOk.call (w_chunk_within hx1) (LeL.refl _) ?_
  obtain ⟨c1, hg1, hv1⟩ := bindS hv1
  refine Br.ite hg1 (fun hb hg1 => ?_) fun hb hg1 => ?_
  ·refine ⟨_, rfl, ?_⟩
   cases hg1
   obtain ⟨c2, hg2, hv1⟩ := bindS hv1
   refine Br.ite hg2 (fun hb hg2 => ?_) fun hb hg2 => ?_
   ·refine ⟨_, rfl, ?_⟩
    cases hg2
    obtain ⟨c3, hg3, hv1⟩ := bindS hv1
    refine Br.ite hg3 (fun hb hg3 => ?_) fun hb hg3 => ?_
    ·refine ⟨_, rfl, _, List.length_map _, fun _ => ?_⟩
     cases hg3
     obtain ⟨c4, hg4, hv1⟩ := bindS hv1
     refine Br.ite hg4 (fun hb hg4 => ?_) fun hb hg4 => ?_
     ·obtain ⟨x2, hx2, hg4⟩ := bindS hg4
      refine ⟨_, rfl, _, rfl, ?_⟩
      refine CallOk.call (w_sum_Check hx2) (LeL.refl _) ?_
      cases hg4
      cases hv1
      exact wt Q1 Q0 rfl
     cases hg4
     cases hv1
     exact wt Q1 Q0 rfl
    cases hg3
    obtain ⟨c4, hg5, hv1⟩ := bindS hv1
    replace hg5 := iteF hg5
    cases hg5
    cases hv1
    exact wt Q1 Q0 rfl
   cases hg2
   obtain ⟨c3, hg6, hv1⟩ := bindS hv1
   replace hg6 := iteF hg6
   cases hg6
   obtain ⟨c4, hg7, hv1⟩ := bindS hv1
   replace hg7 := iteF hg7
   cases hg7
   cases hv1
   exact wt Q1 Q0 rfl
  cases hg1
  obtain ⟨c2, hg8, hv1⟩ := bindS hv1
  replace hg8 := iteF hg8
  cases hg8
  obtain ⟨c3, hg9, hv1⟩ := bindS hv1
  replace hg9 := iteF hg9
  cases hg9
  obtain ⟨c4, hg10, hv1⟩ := bindS hv1
  replace hg10 := iteF hg10
  cases hg10
  cases hv1
  exact wt Q1 Q0 rfl
 refine rt ?_
 cases h
 exact Fz.v
theorem wo_pack_Int {p_n} {r} (h : pack_Int p_n = some r) : POwn Tryz.prog 111 [(vi p_n)] 5 1 (mI r) := by
 refine pw Tryz.tok 27 Tryz.func111 (by kernel_rfl) rfl rfl rfl ?_
 unfold pack_Int at h
 refine wE [(0, vi p_n)] Q1 ?_
 refine sg ?_
 refine wE [(0, vi p_n)] Q1 ?_
 refine sg ?_
 refine wE [(0, vi p_n), (3, .v (.slice none 0 0))] Q2 ?_
 refine sg ?_
 refine ⟨_, rfl, (by decide), _, rfl, (by decide), _, rfl, _, rfl, _, rfl, ?_⟩
 refine wE [(3, .v (.slice none 0 0)), (4, .v (.int .u64 (xorK .u64 (shlK .u64 (IntKind.u64.wrap p_n) (1)) (IntKind.u64.wrap (shrK .i64 p_n (63))))))] Q2 ?_
 obtain ⟨v1, hv1, h⟩ := bindS h
 refine Ok.seqw ⟨Cat.tab [(3, .o 21), (4, .v (.int .u64 v1.1))], [(21, .own 5 1 (mI v1.2))]⟩ ?_ ?_
 ·refine bl ?_
  refine Ok.loop (fun (s1 : Int × (List UInt8)) => ⟨Cat.tab [(3, .o 21), (4, .v (.int .u64 s1.1))], [(21, .own 5 1 (mI s1.2))]⟩) (pack_Int_B1) (s0 := ((xorK .u64 (shlK .u64 (IntKind.u64.wrap p_n) (1)) (IntKind.u64.wrap (shrK .i64 p_n (63)))), [])) hv1 ((Wk.own0 (t := 3) (id := 21) (E := 5) (K := 1) rfl rfl).trans (wt Q2 ⟨⟨_, rfl, .refl _⟩, Q0⟩ rfl)) ?_
  intro s1 y1 hB1 hy1
  unfold pack_Int_B1 at hB1
  refine sq ?_
  refine sg ?_
  refine wT [(3, .o 21), (4, .v (.int .u64 s1.1)), (13, vb (decide (s1.1 ≥ 128)))] [(21, .own 5 1 (mI s1.2))] Q3 J1 rfl ?_
  refine cn 13 (decide (s1.1 ≥ 128)) rfl hB1 (fun hb hB1 => ?_) fun hb hB1 => ?_
  ·refine sk ?_
   refine sq ?_
   refine bl ?_
   refine rg ?_
   obtain ⟨hc1, hB1⟩ := chk_some hB1
   refine ⟨_, toU8_wrap _, _, b8_or (toU8 s1.1) (128 : UInt8), Or.inl ⟨rowsLen_map (f := cU8) (n := 1) (fun _ => rfl) ([(toU8 s1.1) ||| (128 : UInt8)]), app_b2 (f := cU8) (l := s1.2) (l' := [(toU8 s1.1) ||| (128 : UInt8)]) hc1, _, (List.map_append (f := cU8) (l₁ := s1.2) (l₂ := [(toU8 s1.1) ||| (128 : UInt8)])).symm, ?_⟩⟩
   refine wT [(3, .o 21), (4, .v (.int .u64 s1.1))] [(21, .own 5 1 (mI (s1.2 ++ [(toU8 s1.1) ||| (128 : UInt8)])))] Q2 J1 rfl ?_
   refine rg ?_
   refine ⟨(by decide), _, rfl, ?_⟩
   exact ⟨_, sj hB1, wt Q2 J1 rfl⟩
  refine xt ?_
  have hB1 := out_ret hB1 hy1
  cases hB1
  exact wt Q2 J1 rfl
 refine sg ?_
 obtain ⟨hc2, h⟩ := chk_some h
 refine ⟨_, toU8_wrap _, Or.inl ⟨rowsLen_map (f := cU8) (n := 1) (fun _ => rfl) ([toU8 v1.1]), app_b2 (f := cU8) (l := v1.2) (l' := [toU8 v1.1]) hc2, _, (List.map_append (f := cU8) (l₁ := v1.2) (l₂ := [toU8 v1.1])).symm, ?_⟩⟩
 refine wT [(2, .o 21)] [(21, .own 5 1 (mI (v1.2 ++ [toU8 v1.1])))] Q1 J1 rfl ?_
 refine rt ?_
 cases h
 exact (.inr ⟨_, rfl, rfl⟩)
theorem w_pack_Int {p_n} {r} (h : pack_Int p_n = some r) : Pure Tryz.prog 111 [(vi p_n)] (.s (mI r)) := (wo_pack_Int h).pure
theorem wo_pack_Str {p_s} {r} (h : pack_Str p_s = some r) : POwn Tryz.prog 112 [(vs p_s)] 5 1 (mI r) := by
 refine pw Tryz.tok 8 Tryz.func112 (by kernel_rfl) rfl rfl rfl ?_
 unfold pack_Str at h
 refine wE [(0, vs p_s)] Q1 ?_
 refine sg ?_
 refine wE [(0, vs p_s)] Q1 ?_
 refine sg ?_
 obtain ⟨x1, hx1, h⟩ := bindS h
 refine ⟨_, str_size _, ?_⟩
 refine CallOk.own (D := 5) (wo_pack_Int hx1) (LeL.refl _) rfl ?_
 obtain ⟨hc1, h⟩ := chk_some h
 refine ⟨rowsLen_map (f := cU8) (n := 1) (fun _ => rfl) p_s, app_b2 (f := cU8) (l := x1) (l' := p_s) hc1, _, (List.map_append (f := cU8) (l₁ := x1) (l₂ := p_s)).symm, ?_⟩
 refine wT [(2, .o 5)] [(5, .own 5 1 (mI (x1 ++ p_s)))] Q1 J1 rfl ?_
 refine rt ?_
 cases h
 exact (.inr ⟨_, rfl, rfl⟩)
theorem w_pack_Str {p_s} {r} (h : pack_Str p_s = some r) : Pure Tryz.prog 112 [(vs p_s)] (.s (mI r)) := (wo_pack_Str h).pure
theorem wo_pack_numbers {p_l} {r} (h : pack_numbers p_l = some r) : POwn Tryz.prog 151 [(.s (mU p_l))] 5 1 (mI r) := by
 refine pw Tryz.tok 18 Tryz.func151 (by kernel_rfl) rfl rfl rfl ?_
 unfold pack_numbers at h
 refine wE [(0, .s (mU p_l))] Q1 ?_
 refine sg ?_
 refine wE [(0, .s (mU p_l))] Q1 ?_
 refine sg ?_
 refine wE [(0, .s (mU p_l)), (3, .v (.slice none 0 0))] Q2 ?_
 obtain ⟨v1, hv1, h⟩ := bindS h
 refine Ok.seqw ⟨Cat.tab [(3, .o 15)], [(15, .own 5 1 (mI v1))]⟩ ?_ ?_
 ·refine sg ?_
  refine ⟨_, List.length_map _, fun _ => ?_⟩
  refine wE [(3, .v (.slice none 0 0)), (6, .s (mU p_l)), (7, vi (p_l.length : Int)), (8, vi (0))] Q4 ?_
  refine bl ?_
  refine Ok.loop (fun (s1 : Int × (List UInt8)) => ⟨Cat.tab [(3, .o 15), (6, .s (mU p_l)), (7, vi (p_l.length : Int)), (8, vi s1.1)], [(15, .own 5 1 (mI s1.2))]⟩) (pack_numbers_B1 p_l) (s0 := (0, [])) hv1 ((Wk.own0 (t := 3) (id := 15) (E := 5) (K := 1) rfl rfl).trans (wt Q4 ⟨⟨_, rfl, .refl _⟩, Q0⟩ rfl)) ?_
  intro s1 y1 hB1 hy1
  unfold pack_numbers_B1 at hB1
  refine sg ?_
  refine wT [(3, .o 15), (6, .s (mU p_l)), (7, vi (p_l.length : Int)), (8, vi s1.1), (9, vb (decide (s1.1 < (p_l.length : Int))))] [(15, .own 5 1 (mI s1.2))] Q5 J1 rfl ?_
  refine sq ?_
  refine cn 9 (decide (s1.1 < (p_l.length : Int))) rfl hB1 (fun hb hB1 => ?_) fun hb hB1 => ?_
  ·refine sk ?_
   refine sq ?_
   refine bl ?_
   refine sg ?_
   obtain ⟨x1, hx1, hB1⟩ := bindS hB1
   refine ⟨_, idx_nat hx1, _, idx_row hx1, _, rfl, ?_⟩
   refine wT [(3, .o 15), (5, vi x1), (6, .s (mU p_l)), (7, vi (p_l.length : Int)), (8, vi s1.1)] [(15, .own 5 1 (mI s1.2))] Q5 J1 rfl ?_
   refine rg ?_
   obtain ⟨x2, hx2, hB1⟩ := bindS hB1
   refine CallOk.call (w_pack_Int hx2) (LeL.refl _) ?_
   obtain ⟨hc1, hB1⟩ := chk_some hB1
   refine ⟨rowsLen_map (f := cU8) (n := 1) (fun _ => rfl) x2, app_b2 (f := cU8) (l := s1.2) (l' := x2) hc1, _, (List.map_append (f := cU8) (l₁ := s1.2) (l₂ := x2)).symm, ?_⟩
   refine wT [(3, .o 15), (6, .s (mU p_l)), (7, vi (p_l.length : Int)), (8, vi s1.1)] [(15, .own 5 1 (mI (s1.2 ++ x2)))] Q4 J1 rfl ?_
   refine rg ?_
   obtain ⟨hc2, hB1⟩ := chk_some hB1
   refine (Or.inl ⟨hc2, ?_⟩)
   exact ⟨_, sj hB1, wt Q4 J1 rfl⟩
  refine xt ?_
  have hB1 := out_ret hB1 hy1
  cases hB1
  exact wt Q1 J1 rfl
 refine sg ?_
 refine wT [(2, .o 15)] [(15, .own 5 1 (mI v1))] Q1 J1 rfl ?_
 refine rt ?_
 cases h
 exact (.inr ⟨_, rfl, rfl⟩)
theorem w_pack_numbers {p_l} {r} (h : pack_numbers p_l = some r) : Pure Tryz.prog 151 [(.s (mU p_l))] (.s (mI r)) := (wo_pack_numbers h).pure
theorem wo_pack_Ints {p_l} {r} (h : pack_Ints p_l = some r) : POwn Tryz.prog 113 [(.s (mU p_l))] 5 1 (mI r) := by
 refine pw Tryz.tok 9 Tryz.func113 (by kernel_rfl) rfl rfl rfl ?_
 unfold pack_Ints at h
 refine wE [(0, .s (mU p_l))] Q1 ?_
 refine sg ?_
 refine wE [(0, .s (mU p_l))] Q1 ?_
 refine sg ?_
 obtain ⟨x1, hx1, h⟩ := bindS h
 refine ⟨_, List.length_map _, fun _ => ?_⟩
 refine CallOk.own (D := 5) (wo_pack_Int hx1) (LeL.refl _) rfl ?_
 obtain ⟨x2, hx2, h⟩ := bindS h
 refine CallOk.call (w_pack_numbers hx2) (LeL.refl _) ?_
 obtain ⟨hc1, h⟩ := chk_some h
 refine ⟨rowsLen_map (f := cU8) (n := 1) (fun _ => rfl) x2, app_b2 (f := cU8) (l := x1) (l' := x2) hc1, _, (List.map_append (f := cU8) (l₁ := x1) (l₂ := x2)).symm, ?_⟩
 refine wT [(2, .o 5)] [(5, .own 5 1 (mI (x1 ++ x2)))] Q1 J1 rfl ?_
 refine rt ?_
 cases h
 exact (.inr ⟨_, rfl, rfl⟩)
theorem w_pack_Ints {p_l} {r} (h : pack_Ints p_l = some r) : Pure Tryz.prog 113 [(.s (mU p_l))] (.s (mI r)) := (wo_pack_Ints h).pure
theorem wo_slices_Grow_byte_byte__nil {p_n} {r} (h : slices_Grow_byte_byte__nil p_n = some r) : POwn Tryz.prog 150 [(.v (.slice none 0 0)), (vi p_n)] 5 1 (mI r) := by
 refine pw Tryz.tok 27 Tryz.func150 (by kernel_rfl) rfl rfl rfl ?_
 unfold slices_Grow_byte_byte__nil at h
 refine wE [(0, .v (.slice none 0 0)), (1, vi p_n)] Q2 ?_
 refine sg ?_
 refine wE [(0, .v (.slice none 0 0)), (1, vi p_n)] Q2 ?_
 obtain ⟨v1, hv1, h⟩ := bindS h
 refine Ok.seqw ⟨Cat.tab [(0, .v (.slice none 0 0)), (1, vi p_n)], []⟩ ?_ ?_
 ·refine sg ?_
  refine wE [(0, .v (.slice none 0 0)), (1, vi p_n), (6, vb (decide (p_n < 0)))] Q3 ?_
  refine cn 6 (decide (p_n < 0)) rfl hv1 (fun hb hv1 => ?_) fun hb hv1 => ?_
  ·cases hv1
  refine sk ?_
  cases hv1
  exact wt Q2 Q0 rfl
 obtain ⟨v2, hv2, h⟩ := bindS h
 refine Ok.seqw ⟨Cat.tab [(0, .o 22)], [(22, .own 5 1 (mI v2))]⟩ ?_ ?_
 ·refine sg ?_
  obtain ⟨hc1, hv2⟩ := chk_some hv2
  refine (Or.inl ⟨by decide, (Or.inl ⟨hc1, ?_⟩)⟩)
  refine wE [(0, .v (.slice none 0 0)), (1, vi (p_n - 0))] Q2 ?_
  refine sg ?_
  refine wE [(0, .v (.slice none 0 0)), (1, vi (p_n - 0)), (16, vb (decide ((p_n - 0) > 0)))] Q3 ?_
  refine cn 16 (decide ((p_n - 0) > 0)) rfl hv2 (fun hb hv2 => ?_) fun hb hv2 => ?_
  ·refine rg ?_
   obtain ⟨hc2, hv2⟩ := chk_some hv2
   obtain ⟨hc3, hv2⟩ := chk_some hv2
   refine ⟨0, rfl, Nat.le_refl _, Nat.le_refl _, _, mk_nat hc2, hc2.2, _, (List.map_replicate (f := cU8) (a := (0 : UInt8))).symm, _, sl_nat hc3.1, sl_own hc3, _, (List.map_take (f := cU8)).symm, ?_⟩
   cases hv2
   exact wt Q1 J1 rfl
  refine sk ?_
  cases hv2
  exact (Wk.own0 (t := 0) (id := 22) (E := 5) (K := 1) rfl rfl).trans (wt Q1 ⟨⟨_, rfl, .refl _⟩, Q0⟩ rfl)
 refine sg ?_
 refine wT [(4, .o 22)] [(22, .own 5 1 (mI v2))] Q1 J1 rfl ?_
 refine rt ?_
 cases h
 exact (.inr ⟨_, rfl, rfl⟩)
theorem wo_slices_Concat_byte_byte {p_slices} {r} (h : slices_Concat_byte_byte p_slices = some r) : POwn Tryz.prog 110 [(.s (mG p_slices))] 5 1 (mI r) := by
 refine pw Tryz.tok 36 Tryz.func110 (by kernel_rfl) rfl rfl rfl ?_
 unfold slices_Concat_byte_byte at h
 refine wE [(0, .s (mG p_slices))] Q1 ?_
 refine sg ?_
 refine wE [(0, .s (mG p_slices))] Q1 ?_
 refine sg ?_
 refine wE [(0, .s (mG p_slices)), (3, vi (0))] Q2 ?_
 obtain ⟨v1, hv1, h⟩ := bindS h
 refine Ok.seqw ⟨Cat.tab [(0, .s (mG p_slices)), (3, vi v1)], []⟩ ?_ ?_
 ·refine sg ?_
  refine ⟨_, List.length_map _, fun _ => ?_⟩
  refine wE [(0, .s (mG p_slices)), (3, vi (0)), (9, .s (mG p_slices)), (10, vi (p_slices.length : Int)), (11, vi (0))] Q5 ?_
  refine bl ?_
  refine Ok.loop (fun (s1 : Int × Int) => ⟨Cat.tab [(0, .s (mG p_slices)), (3, vi s1.1), (9, .s (mG p_slices)), (10, vi (p_slices.length : Int)), (11, vi s1.2)], []⟩) (slices_Concat_byte_byte_B1 p_slices) (s0 := (0, 0)) hv1 (wt Q5 Q0 rfl) ?_
  intro s1 y1 hB1 hy1
  unfold slices_Concat_byte_byte_B1 at hB1
  refine sg ?_
  refine wE [(0, .s (mG p_slices)), (3, vi s1.1), (9, .s (mG p_slices)), (10, vi (p_slices.length : Int)), (11, vi s1.2), (12, vb (decide (s1.2 < (p_slices.length : Int))))] Q6 ?_
  refine sq ?_
  refine cn 12 (decide (s1.2 < (p_slices.length : Int))) rfl hB1 (fun hb hB1 => ?_) fun hb hB1 => ?_
  ·refine sk ?_
   obtain ⟨v2, hv2, hB1⟩ := bindS hB1
   refine Ok.seqw ⟨Cat.tab [(0, .s (mG p_slices)), (3, vi v2), (9, .s (mG p_slices)), (10, vi (p_slices.length : Int)), (11, vi s1.2)], []⟩ ?_ ?_
   ·refine bl ?_
    refine sg ?_
    obtain ⟨x1, hx1, hv2⟩ := bindS hv2
    refine ⟨_, idx_nat hx1, _, idx_row hx1, _, rfl, ?_⟩
    refine wE [(0, .s (mG p_slices)), (3, vi s1.1), (5, .s (mI x1)), (9, .s (mG p_slices)), (10, vi (p_slices.length : Int)), (11, vi s1.2)] Q6 ?_
    refine sg ?_
    obtain ⟨hc1, hv2⟩ := chk_some hv2
    refine ⟨_, List.length_map _, fun _ => (Or.inl ⟨hc1, ?_⟩)⟩
    refine wE [(0, .s (mG p_slices)), (3, vi (s1.1 + (x1.length : Int))), (9, .s (mG p_slices)), (10, vi (p_slices.length : Int)), (11, vi s1.2)] Q5 ?_
    refine sg ?_
    refine wE [(0, .s (mG p_slices)), (3, vi (s1.1 + (x1.length : Int))), (9, .s (mG p_slices)), (10, vi (p_slices.length : Int)), (11, vi s1.2), (20, vb (decide ((s1.1 + (x1.length : Int)) < 0)))] Q6 ?_
    refine cn 20 (decide ((s1.1 + (x1.length : Int)) < 0)) rfl hv2 (fun hb hv2 => ?_) fun hb hv2 => ?_
    ·cases hv2
    refine sk ?_
    cases hv2
    exact wt Q5 Q0 rfl
   refine rg ?_
   obtain ⟨hc2, hB1⟩ := chk_some hB1
   refine (Or.inl ⟨hc2, ?_⟩)
   exact ⟨_, sj hB1, wt Q5 Q0 rfl⟩
  refine xt ?_
  have hB1 := out_ret hB1 hy1
  cases hB1
  exact wt Q2 Q0 rfl
 refine sg ?_
 obtain ⟨x2, hx2, h⟩ := bindS h
 refine CallOk.own (D := 24) (wo_slices_Grow_byte_byte__nil hx2) (LeL.refl _) rfl ?_
 refine wT [(0, .s (mG p_slices)), (6, .o 24)] [(24, .own 5 1 (mI x2))] Q2 J1 rfl ?_
 obtain ⟨v3, hv3, h⟩ := bindS h
 refine Ok.seqw ⟨Cat.tab [(6, .o 24)], [(24, .own 5 1 (mI v3))]⟩ ?_ ?_
 ·refine sg ?_
  refine ⟨_, List.length_map _, fun _ => ?_⟩
  refine wT [(6, .o 24), (25, .s (mG p_slices)), (26, vi (p_slices.length : Int)), (27, vi (0))] [(24, .own 5 1 (mI x2))] Q4 J1 rfl ?_
  refine bl ?_
  refine Ok.loop (fun (s2 : Int × (List UInt8)) => ⟨Cat.tab [(6, .o 24), (25, .s (mG p_slices)), (26, vi (p_slices.length : Int)), (27, vi s2.1)], [(24, .own 5 1 (mI s2.2))]⟩) (slices_Concat_byte_byte_B2 p_slices) (s0 := (0, x2)) hv3 (wt Q4 ⟨⟨_, rfl, .refl _⟩, Q0⟩ rfl) ?_
  intro s2 y2 hB2 hy2
  unfold slices_Concat_byte_byte_B2 at hB2
  refine sg ?_
  refine wT [(6, .o 24), (25, .s (mG p_slices)), (26, vi (p_slices.length : Int)), (27, vi s2.1), (28, vb (decide (s2.1 < (p_slices.length : Int))))] [(24, .own 5 1 (mI s2.2))] Q5 J1 rfl ?_
  refine sq ?_
  refine cn 28 (decide (s2.1 < (p_slices.length : Int))) rfl hB2 (fun hb hB2 => ?_) fun hb hB2 => ?_
  ·refine sk ?_
   refine sq ?_
   refine bl ?_
   refine sg ?_
   obtain ⟨x3, hx3, hB2⟩ := bindS hB2
   refine ⟨_, idx_nat hx3, _, idx_row hx3, _, rfl, ?_⟩
   refine wT [(6, .o 24), (8, .s (mI x3)), (25, .s (mG p_slices)), (26, vi (p_slices.length : Int)), (27, vi s2.1)] [(24, .own 5 1 (mI s2.2))] Q5 J1 rfl ?_
   refine rg ?_
   obtain ⟨hc3, hB2⟩ := chk_some hB2
   refine ⟨rowsLen_map (f := cU8) (n := 1) (fun _ => rfl) x3, app_b2 (f := cU8) (l := s2.2) (l' := x3) hc3, _, (List.map_append (f := cU8) (l₁ := s2.2) (l₂ := x3)).symm, ?_⟩
   refine wT [(6, .o 24), (25, .s (mG p_slices)), (26, vi (p_slices.length : Int)), (27, vi s2.1)] [(24, .own 5 1 (mI (s2.2 ++ x3)))] Q4 J1 rfl ?_
   refine rg ?_
   obtain ⟨hc4, hB2⟩ := chk_some hB2
   refine (Or.inl ⟨hc4, ?_⟩)
   exact ⟨_, sj hB2, wt Q4 J1 rfl⟩
  refine xt ?_
  have hB2 := out_ret hB2 hy2
  cases hB2
  exact wt Q1 J1 rfl
 refine sg ?_
 refine wT [(2, .o 24)] [(24, .own 5 1 (mI v3))] Q1 J1 rfl ?_
 refine rt ?_
 cases h
 exact (.inr ⟨_, rfl, rfl⟩)
theorem w_sum_Of {p_b} {r} (h : sum_Of p_b = some r) : Pure Tryz.prog 114 [(.s (mI p_b))] (vi r) := by
 refine po Tryz.tok 6 Tryz.func114 (by kernel_rfl) rfl rfl rfl ?_
 unfold sum_Of at h
 refine wE [(0, .s (mI p_b))] Q1 ?_
 refine sg ?_
 refine wE [(0, .s (mI p_b))] Q1 ?_
 refine sg ?_
 obtain ⟨x1, hx1, h⟩ := bindS h
 refine CallOk.call (w_sum_half hx1) (LeL.refl _) ?_
 obtain ⟨x2, hx2, h⟩ := bindS h
 refine CallOk.call (w_sum_of hx2) (LeL.refl _) ?_
 refine wE [(2, vi x2)] Q1 ?_
 refine rt ?_
 cases h
 exact Fz.v
theorem wo_chunk_page {p_c} {r} (h : chunk_page p_c = some r) : POwn Tryz.prog 74 [(.a [(vi p_c.Id), (vi p_c.Ver), (.s (mI p_c.Data)), (.s (mU p_c.Sums))])] 5 1 (mI r) := by
 refine pw Tryz.tok 36 Tryz.func74 (by kernel_rfl) rfl rfl rfl ?_
 unfold chunk_page at h
 refine wE [(0, .a [vi p_c.Id, vi p_c.Ver, .s (mI p_c.Data), .s (mU p_c.Sums)])] Q1 ?_
 refine sg ?_
 refine wT [(1, .b 1 0)] [(1, .box [vi p_c.Id, vi p_c.Ver, .s (mI p_c.Data), .s (mU p_c.Sums)])] Q1 J1 rfl ?_
 refine sq ?_
 refine Ok.draw (m := 14) (MD := ⟨[]⟩) (CH := ⟨[]⟩) Tryz.tok Tryz.mixed (by kernel_rfl) ?_
 obtain ⟨x1, hx1, h⟩ := bindS h
 obtain ⟨x2, hx2, h⟩ := bindS h
 obtain ⟨x3, hx3, h⟩ := bindS h
 obtain ⟨x4, hx4, h⟩ := bindS h
 obtain ⟨x5, hx5, h⟩ := bindS h
 refine ⟨_, rfl, _, ⟨_, rfl, rfl⟩, _, ⟨_, .of_pure (w_pack_Int hx1) (LeL.refl _), rfl⟩, _, rfl, _, ⟨_, rfl, rfl⟩, _, ⟨_, .of_pure (w_pack_Int hx2) (LeL.refl _), rfl⟩, _, rfl, _, ⟨_, rfl, rfl⟩, _, ⟨_, rfl, rfl⟩, _, ⟨_, .of_pure (w_pack_Str hx3) (LeL.refl _), rfl⟩, _, rfl, _, ⟨_, rfl, rfl⟩, _, ⟨_, .of_pure (w_pack_Ints hx4) (LeL.refl _), rfl⟩, _, rfl, Q0, ?_⟩
 refine CallOk.own (D := 20) (wo_slices_Concat_byte_byte hx5) (LeL.refl _) rfl ?_
 refine wT [(3, .o 20)] [(20, .own 5 1 (mI x5))] Q1 J1 rfl ?_
 refine sg ?_
 obtain ⟨x6, hx6, h⟩ := bindS h
 refine CallOk.borrow (w_sum_Of hx6) (.cons (Fz.o rfl) (.nil)) rfl ?_
 refine wT [(3, .o 20), (4, vi x6)] [(20, .own 5 1 (mI x5))] Q2 J1 rfl ?_
 obtain ⟨v1, hv1, h⟩ := bindS h
 refine Ok.seqw ⟨Cat.tab [(3, .o 20)], [(20, .own 5 1 (mI v1))]⟩ ?_ ?_
 ·refine sg ?_
  refine wT [(3, .o 20), (4, vi x6), (23, vi (0))] [(20, .own 5 1 (mI x5))] Q3 J1 rfl ?_
  refine bl ?_
  refine Ok.loop (fun (s1 : Int × (List UInt8)) => ⟨Cat.tab [(3, .o 20), (4, vi x6), (23, vi s1.1)], [(20, .own 5 1 (mI s1.2))]⟩) (chunk_page_B1 x6) (s0 := (0, x5)) hv1 (wt Q3 ⟨⟨_, rfl, .refl _⟩, Q0⟩ rfl) ?_
  intro s1 y1 hB1 hy1
  unfold chunk_page_B1 at hB1
  refine sg ?_
  refine wT [(3, .o 20), (4, vi x6), (23, vi s1.1), (24, vb (decide (s1.1 < 4)))] [(20, .own 5 1 (mI s1.2))] Q4 J1 rfl ?_
  refine sq ?_
  refine cn 24 (decide (s1.1 < 4)) rfl hB1 (fun hb hB1 => ?_) fun hb hB1 => ?_
  ·refine sk ?_
   refine sq ?_
   refine bl ?_
   refine sg ?_
   refine wT [(3, .o 20), (4, vi x6), (5, vi s1.1), (23, vi s1.1)] [(20, .own 5 1 (mI s1.2))] Q4 J1 rfl ?_
   refine rg ?_
   obtain ⟨hc1, hB1⟩ := chk_some hB1
   obtain ⟨hc2, hB1⟩ := chk_some hB1
   obtain ⟨hc3, hB1⟩ := chk_some hB1
   refine (Or.inl ⟨hc1, hc2, _, rfl, _, toU8_wrap _, Or.inl ⟨rowsLen_map (f := cU8) (n := 1) (fun _ => rfl) ([toU8 (shrK .i64 x6 (8 * s1.1))]), app_b2 (f := cU8) (l := s1.2) (l' := [toU8 (shrK .i64 x6 (8 * s1.1))]) hc3, _, (List.map_append (f := cU8) (l₁ := s1.2) (l₂ := [toU8 (shrK .i64 x6 (8 * s1.1))])).symm, ?_⟩⟩)
   refine wT [(3, .o 20), (4, vi x6), (23, vi s1.1)] [(20, .own 5 1 (mI (s1.2 ++ [toU8 (shrK .i64 x6 (8 * s1.1))])))] Q3 J1 rfl ?_
   refine rg ?_
   obtain ⟨hc4, hB1⟩ := chk_some hB1
   refine (Or.inl ⟨hc4, ?_⟩)
   exact ⟨_, sj hB1, wt Q3 J1 rfl⟩
  refine xt ?_
  have hB1 := out_ret hB1 hy1
  cases hB1
  exact wt Q1 J1 rfl
 refine sg ?_
 refine wT [(2, .o 20)] [(20, .own 5 1 (mI v1))] Q1 J1 rfl ?_
 refine rt ?_
 cases h
 exact (.inr ⟨_, rfl, rfl⟩)
theorem w_chunk_page {p_c} {r} (h : chunk_page p_c = some r) : Pure Tryz.prog 74 [(.a [(vi p_c.Id), (vi p_c.Ver), (.s (mI p_c.Data)), (.s (mU p_c.Sums))])] (.s (mI r)) := (wo_chunk_page h).pure
theorem w_bytes_Equal {p_a} {p_b} {r} (h : bytes_Equal p_a p_b = some r) : Pure Tryz.prog 73 [(.s (mI p_a)), (.s (mI p_b))] (vb r) := by
 refine po Tryz.tok 10 Tryz.func73 (by kernel_rfl) rfl rfl rfl ?_
 unfold bytes_Equal at h
 refine wE [(0, .s (mI p_a)), (1, .s (mI p_b))] Q2 ?_
 refine sg ?_
 refine wE [(0, .s (mI p_a)), (1, .s (mI p_b))] Q2 ?_
 refine sg ?_
 refine ⟨_, rfl, _, rfl, _, str_eql _ _, ?_⟩
 refine wE [(4, vb (p_a == p_b))] Q1 ?_
 refine rt ?_
 cases h
 exact Fz.v
theorem w_chunk_Get {p_d} {p_id} {r} (h : chunk_Get p_d p_id = some r) : Pure Tryz.prog 42 [(.a [(.s (mA p_d.Synced)), (.s (mA p_d.Loose)), (vb p_d.Down)]), (vi p_id)] (.t [(.a [(vi r.1.Id), (vi r.1.Ver), (.s (mI r.1.Data)), (.s (mU r.1.Sums))]), (vi r.2)]) := by
 refine po Tryz.tok 61 Tryz.func42 (by kernel_rfl) rfl rfl rfl ?_
 unfold chunk_Get at h
 refine wE [(0, .a [.s (mA p_d.Synced), .s (mA p_d.Loose), vb p_d.Down]), (1, vi p_id)] Q2 ?_
 refine sg ?_
 refine wT [(1, vi p_id), (2, .b 2 0), (4, .b 4 0)] [(2, .box [.s (mA p_d.Synced), .s (mA p_d.Loose), vb p_d.Down]), (4, .box [vi (0), vi (0), .v (.slice none 0 0), .v (.slice none 0 0)])] Q3 J2 rfl ?_
 refine sg ?_
 obtain ⟨x1, hx1, h⟩ := bindS h
 refine ⟨_, rfl, ?_⟩
 refine CallOk.call (w_chunk_there hx1) (LeL.refl _) ?_
 refine wT [(1, vi p_id), (4, .b 4 0), (6, .s (mI x1.1)), (7, vi x1.2)] [(4, .box [vi (0), vi (0), .v (.slice none 0 0), .v (.slice none 0 0)])] Q4 J1 rfl ?_
 refine sq ?_
 refine bl ?_
 refine sg ?_
 refine wT [(1, vi p_id), (4, .b 4 0), (6, .s (mI x1.1)), (7, vi x1.2), (17, vb (x1.2 != 0))] [(4, .box [vi (0), vi (0), .v (.slice none 0 0), .v (.slice none 0 0)])] Q5 J1 rfl ?_
 refine cn 17 (x1.2 != 0) rfl h (fun hb h => ?_) fun hb h => ?_
 ·refine sg ?_
  refine ⟨_, rfl, ?_⟩
  refine wT [(4, .b 4 0), (5, vi x1.2)] [(4, .box [vi (0), vi (0), .v (.slice none 0 0), .v (.slice none 0 0)])] Q2 J1 rfl ?_
  refine rt ?_
  cases h
  exact ⟨_, rfl, (Fz.t (.cons (Fz.a (.cons Fz.v (.cons Fz.v (.cons Fz.nil (.cons Fz.nil .nil))))) (.cons Fz.v .nil)))⟩
 refine sg ?_
 refine ⟨_, List.length_map _, fun _ => ?_⟩
 refine wT [(1, vi p_id), (4, .b 4 0), (6, .s (mI x1.1)), (22, vb (decide ((x1.1.length : Int) < 4)))] [(4, .box [vi (0), vi (0), .v (.slice none 0 0), .v (.slice none 0 0)])] Q4 J1 rfl ?_
 refine cn 22 (decide ((x1.1.length : Int) < 4)) rfl h (fun hb h => ?_) fun hb h => ?_
 ·refine sg ?_
  refine ⟨_, rfl, ?_⟩
  refine wT [(4, .b 4 0), (5, vi (251))] [(4, .box [vi (0), vi (0), .v (.slice none 0 0), .v (.slice none 0 0)])] Q2 J1 rfl ?_
  refine rt ?_
  cases h
  exact ⟨_, rfl, (Fz.t (.cons (Fz.a (.cons Fz.v (.cons Fz.v (.cons Fz.nil (.cons Fz.nil .nil))))) (.cons Fz.v .nil)))⟩
 refine sk ?_
 refine sg ?_
 obtain ⟨hc1, h⟩ := chk_some h
 obtain ⟨hc2, h⟩ := chk_some h
 refine ⟨_, List.length_map _, fun _ => (Or.inl ⟨hc1, _, sl_nat hc2.1, Nat.zero_le _, sl_len hc2, rowsK (f := cU8) (K := 1) (fun _ => rfl) x1.1, _, sl_take _ _ _, ?_⟩)⟩
 refine wT [(1, vi p_id), (4, .b 4 0), (6, .s (mI x1.1)), (8, .b 33 0)] [(4, .box [vi (0), vi (0), .v (.slice none 0 0), .v (.slice none 0 0)]), (33, .box [.s (mI (x1.1.take ((x1.1.length : Int) - 4).toNat)), vb false])] Q4 J2 rfl ?_
 refine sg ?_
 obtain ⟨x2, hx2, h⟩ := bindS h
 refine CallOk.chgLe (id := 33) (w_chunk_reader_copy hx2) rfl (.box (.cons (lr) (.cons (lr) (.nil)))) rfl (.cons (Lr.b) (.nil)) ?_
 rintro _ _ ⟨rfl, rfl⟩
 refine ⟨_, rfl, ?_⟩
 refine wT [(1, vi p_id), (4, .b 4 0), (6, .s (mI x1.1)), (9, .b 9 0), (10, vb x2.1.2)] [(4, .box [vi (0), vi (0), .v (.slice none 0 0), .v (.slice none 0 0)]), (9, .box [vi x2.1.1.Id, vi x2.1.1.Ver, .s (mI x2.1.1.Data), .s (mU x2.1.1.Sums)])] Q5 J2 rfl ?_
 refine sq ?_
 obtain ⟨v1, hv1, h⟩ := bindS h
 refine Ok.seqw ⟨Cat.tab [(4, .b 4 0), (9, .b 9 0), (58, vb v1)], [(4, .box [vi (0), vi (0), .v (.slice none 0 0), .v (.slice none 0 0)]), (9, .box [vi x2.1.1.Id, vi x2.1.1.Ver, .s (mI x2.1.1.Data), .s (mU x2.1.1.Sums)])]⟩ ?_ ?_
 ·refine rg ?_
  obtain ⟨c1, hg1, hv1⟩ := bindS hv1
  refine Br.itf hg1 (fun hb hg1 => ?_) fun hb hg1 => ?_
  ·cases hg1
   obtain ⟨c2, hg2, hv1⟩ := bindS hv1
   replace hg2 := iteT hg2
   cases hg2
   obtain ⟨c3, hg3, hv1⟩ := bindS hv1
   replace hg3 := iteT hg3
   cases hg3
   cases hv1
   exact wt Q3 J2 rfl
  obtain ⟨x3, hx3, hg1⟩ := bindS hg1
  refine ⟨_, rfl, ?_⟩
  refine CallOk.call (w_chunk_may hx3) (LeL.refl _) ?_
  cases hg1
  obtain ⟨c2, hg4, hv1⟩ := bindS hv1
  refine Br.itf hg4 (fun hb hg4 => ?_) fun hb hg4 => ?_
  ·cases hg4
   obtain ⟨c3, hg5, hv1⟩ := bindS hv1
   replace hg5 := iteT hg5
   cases hg5
   cases hv1
   exact wt Q3 J2 rfl
  refine ⟨_, rfl, ?_⟩
  cases hg4
  obtain ⟨c3, hg6, hv1⟩ := bindS hv1
  refine Br.itf hg6 (fun hb hg6 => ?_) fun hb hg6 => ?_
  ·cases hg6
   cases hv1
   exact wt Q3 J2 rfl
  obtain ⟨x4, hx4, hg6⟩ := bindS hg6
  refine ⟨_, rfl, ?_⟩
  refine CallOk.call (w_chunk_page hx4) (LeL.refl _) ?_
  obtain ⟨x5, hx5, hg6⟩ := bindS hg6
  refine CallOk.call (w_bytes_Equal hx5) (LeL.refl _) ?_
  cases hg6
  cases hv1
  exact wt Q3 J2 rfl
 refine cn 58 (v1) rfl h (fun hb h => ?_) fun hb h => ?_
 ·refine sg ?_
  refine ⟨_, rfl, ?_⟩
  refine wT [(4, .b 4 0), (5, vi (251))] [(4, .box [vi (0), vi (0), .v (.slice none 0 0), .v (.slice none 0 0)])] Q2 J1 rfl ?_
  refine rt ?_
  cases h
  exact ⟨_, rfl, (Fz.t (.cons (Fz.a (.cons Fz.v (.cons Fz.v (.cons Fz.nil (.cons Fz.nil .nil))))) (.cons Fz.v .nil)))⟩
 refine sk ?_
 refine sg ?_
 refine ⟨_, rfl, _, rfl, ?_⟩
 refine wT [(4, .b 4 0), (5, vi (0))] [(4, .box [vi x2.1.1.Id, vi x2.1.1.Ver, .s (mI x2.1.1.Data), .s (mU x2.1.1.Sums)])] Q2 J1 rfl ?_
 refine rt ?_
 cases h
 exact ⟨_, rfl, (Fz.t (.cons (Fz.imm rfl) (.cons Fz.v .nil)))⟩
end Go.Proofs
