/- The walks of this seat beside the plain programs, part 1. No condition. -/
import Derived.Test.YtpohijpdclienabGreatXScrubRotEn
import Derived.Test.YtpohijpdclienabGreatXScrubRotWk0
namespace Go.Proofs
set_option linter.all false
open Go Go.Cat
variable [M : Mono]
set_option maxRecDepth 100000
theorem w_chunk_reader_int {self} {r} (h : chunk_reader_int self = some r) : PChg Tryz.prog 95 [(.b 1000 0)] (.box [(.s (mA self.b_)), (vb self.bad_)]) (fun x c => x = (vi r.1) ∧ c = .box [(.s (mA r.2.b_)), (vb r.2.bad_)]) := by
 refine pchg_of_ok (n := 5) (c := Tryz.f95.body.getD .skip) Tryz.tok Tryz.func95 (by kernel_rfl) rfl rfl (Nat.le_of_ble_eq_true rfl) ?_
 unfold chunk_reader_int at h
 refine wT [(0, .b 1000 0)] [(1000, .box [.s (mA self.b_), vb self.bad_])] Q1 J1 rfl ?_
 refine sg ?_
 refine wT [(0, .b 1000 0)] [(1000, .box [.s (mA self.b_), vb self.bad_])] Q1 J1 rfl ?_
 refine sg ?_
 obtain ⟨x1, hx1, h⟩ := bindS h
 refine CallOk.chgLe (id := 1000) (w_chunk_take_int__pack_ReadInt hx1) rfl (.box (.cons (lr) (.cons (lr) (.nil)))) rfl (.cons (Lr.b) (.cons (Lr.imm rfl) (.nil))) ?_
 rintro _ _ ⟨rfl, rfl⟩
 refine wT [(2, vi x1.1)] [(1000, .box [.s (mA x1.2.b_), vb x1.2.bad_])] Q1 J1 rfl ?_
 refine rt ?_
 cases h
 exact ⟨_, _, ⟨rfl, rfl⟩, rfl, rfl, Fz.v⟩
theorem w_pack_reader_num {self} {r} (h : pack_reader_num self = some r) : PChg Tryz.prog 114 [(.b 1000 0)] (.box [(.s (mA self.rest_.b_)), (vi self.e_)]) (fun x c => x = (vi r.1) ∧ c = .box [(.s (mA r.2.rest_.b_)), (vi r.2.e_)]) := by
 refine pchg_of_ok (n := 31) (c := Tryz.f114.body.getD .skip) Tryz.tok Tryz.func114 (by kernel_rfl) rfl rfl (Nat.le_of_ble_eq_true rfl) ?_
 unfold pack_reader_num at h
 refine wT [(0, .b 1000 0)] [(1000, .box [.s (mA self.rest_.b_), vi self.e_])] Q1 J1 rfl ?_
 refine sg ?_
 refine wT [(0, .b 1000 0)] [(1000, .box [.s (mA self.rest_.b_), vi self.e_])] Q1 J1 rfl ?_
 refine sq ?_
 refine sg ?_
 refine ⟨_, rfl, ?_⟩
 refine wT [(0, .b 1000 0), (10, vb (self.e_ != 0))] [(1000, .box [.s (mA self.rest_.b_), vi self.e_])] Q2 J1 rfl ?_
 refine cn 10 (self.e_ != 0) rfl h (fun hb h => ?_) fun hb h => ?_
 ·refine sg ?_
  refine wT [(2, vi (0))] [(1000, .box [.s (mA self.rest_.b_), vi self.e_])] Q1 J1 rfl ?_
  refine rt ?_
  cases h
  exact ⟨_, _, ⟨rfl, rfl⟩, rfl, rfl, Fz.v⟩
 refine sk ?_
 refine sg ?_
 obtain ⟨x1, hx1, h⟩ := bindS h
 refine ⟨_, rfl, ?_⟩
 refine CallOk.call (w_pack_ReadInt hx1) (LeL.refl _) ?_
 refine wT [(0, .b 1000 0), (3, vi x1.1), (4, .s (mA x1.2.1)), (5, vi x1.2.2)] [(1000, .box [.s (mA self.rest_.b_), vi self.e_])] Q4 J1 rfl ?_
 refine sg ?_
 refine ⟨_, rfl, _, rfl, ?_⟩
 refine wT [(3, vi x1.1)] [(1000, .box [.s (mA x1.2.1), vi x1.2.2])] Q1 J1 rfl ?_
 refine sg ?_
 refine wT [(2, vi x1.1)] [(1000, .box [.s (mA x1.2.1), vi x1.2.2])] Q1 J1 rfl ?_
 refine rt ?_
 cases h
 exact ⟨_, _, ⟨rfl, rfl⟩, rfl, rfl, Fz.v⟩
theorem w_pack_reader_count {self} {r} (h : pack_reader_count self = some r) : PChg Tryz.prog 113 [(.b 1000 0)] (.box [(.s (mA self.rest_.b_)), (vi self.e_)]) (fun x c => x = (vi r.1) ∧ c = .box [(.s (mA r.2.rest_.b_)), (vi r.2.e_)]) := by
 refine pchg_of_ok (n := 31) (c := Tryz.f113.body.getD .skip) Tryz.tok Tryz.func113 (by kernel_rfl) rfl rfl (Nat.le_of_ble_eq_true rfl) ?_
 unfold pack_reader_count at h
 refine wT [(0, .b 1000 0)] [(1000, .box [.s (mA self.rest_.b_), vi self.e_])] Q1 J1 rfl ?_
 refine sg ?_
 refine wT [(0, .b 1000 0)] [(1000, .box [.s (mA self.rest_.b_), vi self.e_])] Q1 J1 rfl ?_
 refine sg ?_
 obtain ⟨x1, hx1, h⟩ := bindS h
 refine CallOk.chgLe (id := 1000) (w_pack_reader_num hx1) rfl (.box (.cons (lr) (.cons (lr) (.nil)))) rfl (.cons (Lr.b) (.nil)) ?_
 rintro _ _ ⟨rfl, rfl⟩
 refine wT [(0, .b 1000 0), (3, vi x1.1)] [(1000, .box [.s (mA x1.2.rest_.b_), vi x1.2.e_])] Q2 J1 rfl ?_
 refine Ok.seqj (fun v1 => ⟨Cat.tab [], [(1000, .box [.s (mA x1.2.rest_.b_), vi v1])]⟩) (fun v1 => pack_reader_count_J1 x1 v1 = some r) ?_ ?_
 ·refine bl ?_
  refine sg ?_
  refine ⟨_, rfl, ?_⟩
  refine wT [(0, .b 1000 0), (3, vi x1.1), (7, vb (x1.2.e_ != 0))] [(1000, .box [.s (mA x1.2.rest_.b_), vi x1.2.e_])] Q3 J1 rfl ?_
  refine cn 7 (x1.2.e_ != 0) rfl h (fun hb h => ?_) fun hb h => ?_
  ·refine sg ?_
   refine wT [(2, vi (0))] [(1000, .box [.s (mA x1.2.rest_.b_), vi x1.2.e_])] Q1 J1 rfl ?_
   refine rt ?_
   cases h
   exact ⟨_, _, ⟨rfl, rfl⟩, rfl, rfl, Fz.v⟩
  refine sg ?_
  refine wT [(0, .b 1000 0), (3, vi x1.1), (13, vb (decide (x1.1 < 0)))] [(1000, .box [.s (mA x1.2.rest_.b_), vi x1.2.e_])] Q3 J1 rfl ?_
  refine cn 13 (decide (x1.1 < 0)) rfl h (fun hb h => ?_) fun hb h => ?_
  ·refine rg ?_
   refine ⟨_, rfl, ?_⟩
   exact ⟨_, h, wt Q0 ⟨⟨_, rfl, .refl _⟩, Q0⟩ rfl⟩
  refine sg ?_
  refine ⟨_, rfl, _, List.length_map _, fun _ => ?_⟩
  refine wT [(0, .b 1000 0), (3, vi x1.1), (19, vb (decide (x1.1 > (x1.2.rest_.b_.length : Int))))] [(1000, .box [.s (mA x1.2.rest_.b_), vi x1.2.e_])] Q3 J1 rfl ?_
  refine cn 19 (decide (x1.1 > (x1.2.rest_.b_.length : Int))) rfl h (fun hb h => ?_) fun hb h => ?_
  ·refine rg ?_
   refine ⟨_, rfl, ?_⟩
   exact ⟨_, h, wt Q0 ⟨⟨_, rfl, .refl _⟩, Q0⟩ rfl⟩
  refine sg ?_
  refine wT [(2, vi x1.1)] [(1000, .box [.s (mA x1.2.rest_.b_), vi x1.2.e_])] Q1 J1 rfl ?_
  refine rt ?_
  cases h
  exact ⟨_, _, ⟨rfl, rfl⟩, rfl, rfl, Fz.v⟩
 intro v1 h
 unfold pack_reader_count_J1 at h
 refine sg ?_
 refine wT [(2, vi (0))] [(1000, .box [.s (mA x1.2.rest_.b_), vi v1])] Q1 J1 rfl ?_
 refine rt ?_
 cases h
 exact ⟨_, _, ⟨rfl, rfl⟩, rfl, rfl, Fz.v⟩
theorem w_pack_rest_take {self} {p_n} {r} (h : pack_rest_take self p_n = some r) : PChg Tryz.prog 125 [(.b 1000 0), (vi p_n)] (.box [(.s (mA self.rest_.b_)), (vi self.e_)]) (fun x c => x = (.s (mA r.1)) ∧ c = .box [(.s (mA r.2.rest_.b_)), (vi r.2.e_)]) := by
 refine pchg_of_ok (n := 22) (c := Tryz.f125.body.getD .skip) Tryz.tok Tryz.func125 (by kernel_rfl) rfl rfl (Nat.le_of_ble_eq_true rfl) ?_
 unfold pack_rest_take at h
 refine wT [(0, .b 1000 0), (1, vi p_n)] [(1000, .box [.s (mA self.rest_.b_), vi self.e_])] Q2 J1 rfl ?_
 refine sg ?_
 refine wT [(0, .b 1000 0), (1, vi p_n)] [(1000, .box [.s (mA self.rest_.b_), vi self.e_])] Q2 J1 rfl ?_
 refine sg ?_
 obtain ⟨hc1, h⟩ := chk_some h
 refine ⟨_, rfl, _, sl_nat hc1.1, Nat.zero_le _, sl_len hc1, rowsK (f := cU8) (K := 1) (fun _ => rfl) self.rest_.b_, _, sl_take _ _ _, ?_⟩
 refine wT [(0, .b 1000 0), (1, vi p_n), (5, .s (mA (self.rest_.b_.take p_n.toNat)))] [(1000, .box [.s (mA self.rest_.b_), vi self.e_])] Q3 J1 rfl ?_
 refine sg ?_
 obtain ⟨hc2, h⟩ := chk_some h
 refine ⟨_, rfl, _, sl_nat hc2.1, sl_len hc2, Nat.le_refl _, rowsK (f := cU8) (K := 1) (fun _ => rfl) self.rest_.b_, _, sl_drop _ _ _, _, rfl, ?_⟩
 refine wT [(5, .s (mA (self.rest_.b_.take p_n.toNat)))] [(1000, .box [.s (mA (self.rest_.b_.drop p_n.toNat)), vi self.e_])] Q1 J1 rfl ?_
 refine sg ?_
 refine wT [(4, .s (mA (self.rest_.b_.take p_n.toNat)))] [(1000, .box [.s (mA (self.rest_.b_.drop p_n.toNat)), vi self.e_])] Q1 J1 rfl ?_
 refine rt ?_
 cases h
 exact ⟨_, _, ⟨rfl, rfl⟩, rfl, rfl, Fz.s⟩
theorem w_pack_reader_str {self} {r} (h : pack_reader_str self = some r) : PChg Tryz.prog 112 [(.b 1000 0)] (.box [(.s (mA self.rest_.b_)), (vi self.e_)]) (fun x c => x = (vs r.1) ∧ c = .box [(.s (mA r.2.rest_.b_)), (vi r.2.e_)]) := by
 refine pchg_of_ok (n := 17) (c := Tryz.f112.body.getD .skip) Tryz.tok Tryz.func112 (by kernel_rfl) rfl rfl (Nat.le_of_ble_eq_true rfl) ?_
 unfold pack_reader_str at h
 refine wT [(0, .b 1000 0)] [(1000, .box [.s (mA self.rest_.b_), vi self.e_])] Q1 J1 rfl ?_
 refine sg ?_
 refine wT [(0, .b 1000 0)] [(1000, .box [.s (mA self.rest_.b_), vi self.e_])] Q1 J1 rfl ?_
 refine sg ?_
 obtain ⟨x1, hx1, h⟩ := bindS h
 refine CallOk.chgLe (id := 1000) (w_pack_reader_count hx1) rfl (.box (.cons (lr) (.cons (lr) (.nil)))) rfl (.cons (Lr.b) (.nil)) ?_
 rintro _ _ ⟨rfl, rfl⟩
 refine wT [(0, .b 1000 0), (3, vi x1.1)] [(1000, .box [.s (mA x1.2.rest_.b_), vi x1.2.e_])] Q2 J1 rfl ?_
 refine sq ?_
 refine sg ?_
 refine ⟨_, rfl, ?_⟩
 refine wT [(0, .b 1000 0), (3, vi x1.1), (10, vb (x1.2.e_ != 0))] [(1000, .box [.s (mA x1.2.rest_.b_), vi x1.2.e_])] Q3 J1 rfl ?_
 refine cn 10 (x1.2.e_ != 0) rfl h (fun hb h => ?_) fun hb h => ?_
 ·refine sg ?_
  refine wT [(2, vs ([]))] [(1000, .box [.s (mA x1.2.rest_.b_), vi x1.2.e_])] Q1 J1 rfl ?_
  refine rt ?_
  cases h
  exact ⟨_, _, ⟨rfl, rfl⟩, rfl, rfl, Fz.v⟩
 refine sk ?_
 refine sg ?_
 obtain ⟨x2, hx2, h⟩ := bindS h
 refine CallOk.chgLe (id := 1000) (w_pack_rest_take hx2) rfl (.box (.cons (lr) (.cons (lr) (.nil)))) rfl (.cons (Lr.b) (.cons (Lr.imm rfl) (.nil))) ?_
 rintro _ _ ⟨rfl, rfl⟩
 refine ⟨_, rfl, ?_⟩
 refine wT [(2, vs x2.1)] [(1000, .box [.s (mA x2.2.rest_.b_), vi x2.2.e_])] Q1 J1 rfl ?_
 refine rt ?_
 cases h
 exact ⟨_, _, ⟨rfl, rfl⟩, rfl, rfl, Fz.v⟩
theorem w_pack_ReadStr {p_b} {r} (h : pack_ReadStr p_b = some r) : Pure Tryz.prog 97 [(.s (mA p_b))] (.t [(vs r.1), (.s (mA r.2.1)), (vi r.2.2)]) := by
 refine po Tryz.tok 28 Tryz.func97 (by kernel_rfl) rfl rfl rfl ?_
 unfold pack_ReadStr at h
 refine wE [(0, .s (mA p_b))] Q1 ?_
 refine sg ?_
 refine wE [(0, .s (mA p_b))] Q1 ?_
 refine sg ?_
 refine wT [(5, .b 10 0)] [(10, .box [.s (mA p_b), vi (0)])] Q1 J1 rfl ?_
 refine sg ?_
 obtain ⟨x1, hx1, h⟩ := bindS h
 refine CallOk.chgLe (id := 10) (w_pack_reader_str hx1) rfl (.box (.cons (lr) (.cons (lr) (.nil)))) rfl (.cons (Lr.b) (.nil)) ?_
 rintro _ _ ⟨rfl, rfl⟩
 refine wT [(5, .b 10 0), (6, vs x1.1)] [(10, .box [.s (mA x1.2.rest_.b_), vi x1.2.e_])] Q2 J1 rfl ?_
 refine sq ?_
 refine sg ?_
 refine ⟨_, rfl, ?_⟩
 refine wT [(5, .b 10 0), (6, vs x1.1), (17, vb (x1.2.e_ != 0))] [(10, .box [.s (mA x1.2.rest_.b_), vi x1.2.e_])] Q3 J1 rfl ?_
 refine cn 17 (x1.2.e_ != 0) rfl h (fun hb h => ?_) fun hb h => ?_
 ·refine sq ?_
  refine Ok.draw (m := 7) (MD := ⟨[]⟩) (CH := ⟨[]⟩) Tryz.tok Tryz.mixed (by kernel_rfl) ?_
  refine ⟨_, rfl, _, rfl, _, rfl, _, ⟨_, rfl, rfl⟩, _, rfl, _, rfl, _, rfl, Q0, ?_⟩
  refine wE [(2, vs ([])), (3, .v (.slice none 0 0)), (4, vi x1.2.e_)] Q3 ?_
  refine rt ?_
  cases h
  exact (Fz.t (.cons Fz.v (.cons Fz.nil (.cons Fz.v .nil))))
 refine sk ?_
 refine sq ?_
 refine Ok.draw (m := 9) (MD := ⟨[]⟩) (CH := ⟨[]⟩) Tryz.tok Tryz.mixed (by kernel_rfl) ?_
 refine ⟨_, rfl, _, rfl, _, rfl, _, rfl, _, rfl, _, ⟨_, rfl, rfl⟩, _, rfl, _, rfl, _, rfl, Q0, ?_⟩
 refine wE [(2, vs x1.1), (3, .s (mA x1.2.rest_.b_)), (4, vi (0))] Q3 ?_
 refine rt ?_
 cases h
 exact (Fz.t (.cons Fz.v (.cons Fz.s (.cons Fz.v .nil))))
theorem w_chunk_take_string__pack_ReadStr {self} {r} (h : chunk_take_string__pack_ReadStr self = some r) : PChg Tryz.prog 96 [(.b 1000 0), (.c (.func 97) [] [])] (.box [(.s (mA self.b_)), (vb self.bad_)]) (fun x c => x = (vs r.1) ∧ c = .box [(.s (mA r.2.b_)), (vb r.2.bad_)]) := by
 refine pchg_of_ok (n := 36) (c := Tryz.f96.body.getD .skip) Tryz.tok Tryz.func96 (by kernel_rfl) rfl rfl (Nat.le_of_ble_eq_true rfl) ?_
 unfold chunk_take_string__pack_ReadStr at h
 refine wT [(0, .b 1000 0), (1, .c (.func 97) [] [])] [(1000, .box [.s (mA self.b_), vb self.bad_])] Q2 J1 rfl ?_
 refine sg ?_
 refine wT [(0, .b 1000 0), (1, .c (.func 97) [] [])] [(1000, .box [.s (mA self.b_), vb self.bad_])] Q2 J1 rfl ?_
 refine sg ?_
 obtain ⟨x1, hx1, h⟩ := bindS h
 refine ⟨_, rfl, ?_⟩
 refine CallOk.call (w_pack_ReadStr hx1) (LeL.refl _) ?_
 refine wT [(0, .b 1000 0), (5, vs x1.1), (6, .s (mA x1.2.1)), (7, vi x1.2.2)] [(1000, .box [.s (mA self.b_), vb self.bad_])] Q4 J1 rfl ?_
 refine sq ?_
 obtain ⟨v1, hv1, h⟩ := bindS h
 refine Ok.seqw ⟨Cat.tab [(0, .b 1000 0), (5, vs x1.1), (6, .s (mA x1.2.1)), (26, vb v1)], [(1000, .box [.s (mA self.b_), vb self.bad_])]⟩ ?_ ?_
 ·refine rg ?_
  refine ⟨_, rfl, ?_⟩
  obtain ⟨c1, hg1, hv1⟩ := bindS hv1
  refine Br.itf hg1 (fun hb hg1 => ?_) fun hb hg1 => ?_
  ·cases hg1
   cases hv1
   exact wt Q4 J1 rfl
  cases hg1
  cases hv1
  exact wt Q4 J1 rfl
 refine cn 26 (v1) rfl h (fun hb h => ?_) fun hb h => ?_
 ·refine sg ?_
  refine ⟨_, rfl, ?_⟩
  refine wT [] [(1000, .box [.s (mA self.b_), vb true])] Q0 J1 rfl ?_
  refine sg ?_
  refine wT [(8, vs ([]))] [(1000, .box [.s (mA self.b_), vb true])] Q1 J1 rfl ?_
  refine sg ?_
  refine wT [(4, vs ([]))] [(1000, .box [.s (mA self.b_), vb true])] Q1 J1 rfl ?_
  refine rt ?_
  cases h
  exact ⟨_, _, ⟨rfl, rfl⟩, rfl, rfl, Fz.v⟩
 refine sk ?_
 refine sg ?_
 refine ⟨_, rfl, ?_⟩
 refine wT [(5, vs x1.1)] [(1000, .box [.s (mA x1.2.1), vb self.bad_])] Q1 J1 rfl ?_
 refine sg ?_
 refine wT [(4, vs x1.1)] [(1000, .box [.s (mA x1.2.1), vb self.bad_])] Q1 J1 rfl ?_
 refine rt ?_
 cases h
 exact ⟨_, _, ⟨rfl, rfl⟩, rfl, rfl, Fz.v⟩
theorem w_pack_ReadInts {p_b} {r} (h : pack_ReadInts p_b = some r) : Pure Tryz.prog 99 [(.s (mA p_b))] (.t [(.s (mI r.1)), (.s (mA r.2.1)), (vi r.2.2)]) := by
 refine po Tryz.tok 41 Tryz.func99 (by kernel_rfl) rfl rfl rfl ?_
 unfold pack_ReadInts at h
 refine wE [(0, .s (mA p_b))] Q1 ?_
 refine sg ?_
 refine wE [(0, .s (mA p_b))] Q1 ?_
 refine sg ?_
 refine wT [(5, .b 10 0)] [(10, .box [.s (mA p_b), vi (0)])] Q1 J1 rfl ?_
 refine sg ?_
 refine wT [(5, .b 10 0), (6, .v (.slice none 0 0))] [(10, .box [.s (mA p_b), vi (0)])] Q2 J1 rfl ?_
 obtain ⟨v1, hv1, h⟩ := bindS h
 refine Ok.seqw ⟨Cat.tab [(5, .b 10 0), (6, .o 19)], [(10, .box [.s (mA v1.1), vi v1.2.1]), (19, .own 3 1 (mI v1.2.2))]⟩ ?_ ?_
 ·refine sg ?_
  obtain ⟨x1, hx1, hv1⟩ := bindS hv1
  refine CallOk.chgLe (id := 10) (w_pack_reader_count hx1) rfl (.box (.cons (lr) (.cons (lr) (.nil)))) rfl (.cons (Lr.b) (.nil)) ?_
  rintro _ _ ⟨rfl, rfl⟩
  refine wT [(5, .b 10 0), (6, .v (.slice none 0 0)), (12, vi x1.1), (13, vi (0))] [(10, .box [.s (mA x1.2.rest_.b_), vi x1.2.e_])] Q4 J1 rfl ?_
  refine bl ?_
  refine Ok.loop (fun (s1 : Int × (List UInt8) × Int × (List Int)) => ⟨Cat.tab [(5, .b 10 0), (6, .o 19), (12, vi x1.1), (13, vi s1.1)], [(10, .box [.s (mA s1.2.1), vi s1.2.2.1]), (19, .own 3 1 (mI s1.2.2.2))]⟩) (pack_ReadInts_B1 x1) (s0 := (0, x1.2.rest_.b_, x1.2.e_, [])) hv1 ((Wk.own0 (t := 6) (id := 19) (E := 3) (K := 1) rfl rfl).trans (wt Q4 ⟨⟨_, rfl, .refl _⟩, ⟨_, rfl, .refl _⟩, Q0⟩ rfl)) ?_
  intro s1 y1 hB1 hy1
  unfold pack_ReadInts_B1 at hB1
  refine sg ?_
  refine wT [(5, .b 10 0), (6, .o 19), (12, vi x1.1), (13, vi s1.1), (14, vb (decide (s1.1 < x1.1)))] [(10, .box [.s (mA s1.2.1), vi s1.2.2.1]), (19, .own 3 1 (mI s1.2.2.2))] Q5 J2 rfl ?_
  refine sq ?_
  refine cn 14 (decide (s1.1 < x1.1)) rfl hB1 (fun hb hB1 => ?_) fun hb hB1 => ?_
  ·refine sk ?_
   refine sq ?_
   refine bl ?_
   refine sg ?_
   obtain ⟨x2, hx2, hB1⟩ := bindS hB1
   refine CallOk.chgLe (id := 10) (w_pack_reader_num hx2) rfl (.box (.cons (lr) (.cons (lr) (.nil)))) rfl (.cons (Lr.b) (.nil)) ?_
   rintro _ _ ⟨rfl, rfl⟩
   obtain ⟨hc1, hB1⟩ := chk_some hB1
   refine Or.inl ⟨rowsLen_map (f := Go.Cat.encI) (n := 1) (fun _ => rfl) ([x2.1]), app_b2 (f := Go.Cat.encI) (l := s1.2.2.2) (l' := [x2.1]) hc1, _, (List.map_append (f := Go.Cat.encI) (l₁ := s1.2.2.2) (l₂ := [x2.1])).symm, ?_⟩
   refine wT [(5, .b 10 0), (6, .o 19), (12, vi x1.1), (13, vi s1.1)] [(10, .box [.s (mA x2.2.rest_.b_), vi x2.2.e_]), (19, .own 3 1 (mI (s1.2.2.2 ++ [x2.1])))] Q4 J2 rfl ?_
   refine sg ?_
   refine ⟨_, rfl, ?_⟩
   refine wT [(5, .b 10 0), (6, .o 19), (12, vi x1.1), (13, vi s1.1), (24, vb (x2.2.e_ != 0))] [(10, .box [.s (mA x2.2.rest_.b_), vi x2.2.e_]), (19, .own 3 1 (mI (s1.2.2.2 ++ [x2.1])))] Q5 J2 rfl ?_
   refine cn 24 (x2.2.e_ != 0) rfl hB1 (fun hb hB1 => ?_) fun hb hB1 => ?_
   ·refine xt ?_
    have hB1 := out_ret hB1 hy1
    cases hB1
    exact wt Q2 J2 rfl
   refine sk ?_
   refine rg ?_
   obtain ⟨hc2, hB1⟩ := chk_some hB1
   refine (Or.inl ⟨hc2, ?_⟩)
   exact ⟨_, sj hB1, wt Q4 J2 rfl⟩
  refine xt ?_
  have hB1 := out_ret hB1 hy1
  cases hB1
  exact wt Q2 J2 rfl
 refine sq ?_
 refine sg ?_
 refine ⟨_, rfl, ?_⟩
 refine wT [(5, .b 10 0), (6, .o 19), (30, vb (v1.2.1 != 0))] [(10, .box [.s (mA v1.1), vi v1.2.1]), (19, .own 3 1 (mI v1.2.2))] Q3 J2 rfl ?_
 refine cn 30 (v1.2.1 != 0) rfl h (fun hb h => ?_) fun hb h => ?_
 ·refine sq ?_
  refine Ok.draw (m := 7) (MD := ⟨[]⟩) (CH := ⟨[]⟩) Tryz.tok Tryz.mixed (by kernel_rfl) ?_
  refine ⟨_, rfl, _, rfl, _, rfl, _, ⟨_, rfl, rfl⟩, _, rfl, _, rfl, _, rfl, Q0, ?_⟩
  refine wE [(2, .v (.slice none 0 0)), (3, .v (.slice none 0 0)), (4, vi v1.2.1)] Q3 ?_
  refine rt ?_
  cases h
  exact (Fz.t (.cons Fz.nil (.cons Fz.nil (.cons Fz.v .nil))))
 refine sk ?_
 refine sq ?_
 refine Ok.draw (m := 9) (MD := ⟨[]⟩) (CH := ⟨[]⟩) Tryz.tok Tryz.mixed (by kernel_rfl) ?_
 refine ⟨_, rfl, _, rfl, _, rfl, _, rfl, _, rfl, _, ⟨_, rfl, rfl⟩, _, rfl, _, rfl, _, rfl, Q0, ?_⟩
 refine wT [(2, .o 19), (3, .s (mA v1.1)), (4, vi (0))] [(19, .own 3 1 (mI v1.2.2))] Q3 J1 rfl ?_
 refine rt ?_
 cases h
 exact (Fz.t (.cons (Fz.o rfl) (.cons Fz.s (.cons Fz.v .nil))))
theorem w_chunk_take_int__pack_ReadInts {self} {r} (h : chunk_take_int__pack_ReadInts self = some r) : PChg Tryz.prog 98 [(.b 1000 0), (.c (.func 99) [] [])] (.box [(.s (mA self.b_)), (vb self.bad_)]) (fun x c => x = (.s (mI r.1)) ∧ c = .box [(.s (mA r.2.b_)), (vb r.2.bad_)]) := by
 refine pchg_of_ok (n := 36) (c := Tryz.f98.body.getD .skip) Tryz.tok Tryz.func98 (by kernel_rfl) rfl rfl (Nat.le_of_ble_eq_true rfl) ?_
 unfold chunk_take_int__pack_ReadInts at h
 refine wT [(0, .b 1000 0), (1, .c (.func 99) [] [])] [(1000, .box [.s (mA self.b_), vb self.bad_])] Q2 J1 rfl ?_
 refine sg ?_
 refine wT [(0, .b 1000 0), (1, .c (.func 99) [] [])] [(1000, .box [.s (mA self.b_), vb self.bad_])] Q2 J1 rfl ?_
 refine sg ?_
 obtain ⟨x1, hx1, h⟩ := bindS h
 refine ⟨_, rfl, ?_⟩
 refine CallOk.call (w_pack_ReadInts hx1) (LeL.refl _) ?_
 refine wT [(0, .b 1000 0), (5, .s (mI x1.1)), (6, .s (mA x1.2.1)), (7, vi x1.2.2)] [(1000, .box [.s (mA self.b_), vb self.bad_])] Q4 J1 rfl ?_
 refine sq ?_
 obtain ⟨v1, hv1, h⟩ := bindS h
 refine Ok.seqw ⟨Cat.tab [(0, .b 1000 0), (5, .s (mI x1.1)), (6, .s (mA x1.2.1)), (26, vb v1)], [(1000, .box [.s (mA self.b_), vb self.bad_])]⟩ ?_ ?_
 ·refine rg ?_
  refine ⟨_, rfl, ?_⟩
  obtain ⟨c1, hg1, hv1⟩ := bindS hv1
  refine Br.itf hg1 (fun hb hg1 => ?_) fun hb hg1 => ?_
  ·cases hg1
   cases hv1
   exact wt Q4 J1 rfl
  cases hg1
  cases hv1
  exact wt Q4 J1 rfl
 refine cn 26 (v1) rfl h (fun hb h => ?_) fun hb h => ?_
 ·refine sg ?_
  refine ⟨_, rfl, ?_⟩
  refine wT [] [(1000, .box [.s (mA self.b_), vb true])] Q0 J1 rfl ?_
  refine sg ?_
  refine wT [(8, .v (.slice none 0 0))] [(1000, .box [.s (mA self.b_), vb true])] Q1 J1 rfl ?_
  refine sg ?_
  refine wT [(4, .v (.slice none 0 0))] [(1000, .box [.s (mA self.b_), vb true])] Q1 J1 rfl ?_
  refine rt ?_
  cases h
  exact ⟨_, _, ⟨rfl, rfl⟩, rfl, rfl, Fz.nil⟩
 refine sk ?_
 refine sg ?_
 refine ⟨_, rfl, ?_⟩
 refine wT [(5, .s (mI x1.1))] [(1000, .box [.s (mA x1.2.1), vb self.bad_])] Q1 J1 rfl ?_
 refine sg ?_
 refine wT [(4, .s (mI x1.1))] [(1000, .box [.s (mA x1.2.1), vb self.bad_])] Q1 J1 rfl ?_
 refine rt ?_
 cases h
 exact ⟨_, _, ⟨rfl, rfl⟩, rfl, rfl, Fz.s⟩
theorem w_chunk_reader_copy {self} {r} (h : chunk_reader_copy self = some r) : PChg Tryz.prog 69 [(.b 1000 0)] (.box [(.s (mA self.b_)), (vb self.bad_)]) (fun x c => x = (.t [(.a [(vi r.1.1.Id), (vi r.1.1.Ver), (.s (mA r.1.1.Data)), (.s (mI r.1.1.Sums))]), (vb r.1.2)]) ∧ c = .box [(.s (mA r.2.b_)), (vb r.2.bad_)]) := by
 refine pchg_of_ok (n := 34) (c := Tryz.f69.body.getD .skip) Tryz.tok Tryz.func69 (by kernel_rfl) rfl rfl (Nat.le_of_ble_eq_true rfl) ?_
 unfold chunk_reader_copy at h
 refine wT [(0, .b 1000 0)] [(1000, .box [.s (mA self.b_), vb self.bad_])] Q1 J1 rfl ?_
 refine sg ?_
 refine wT [(0, .b 1000 0), (2, .b 2 0)] [(1000, .box [.s (mA self.b_), vb self.bad_]), (2, .box [vi (0), vi (0), .v (.slice none 0 0), .v (.slice none 0 0)])] Q2 J2 rfl ?_
 refine sg ?_
 refine wT [(0, .b 1000 0), (2, .b 2 0), (4, .c (.func 95) [.b 1000 0] [])] [(1000, .box [.s (mA self.b_), vb self.bad_]), (2, .box [vi (0), vi (0), .v (.slice none 0 0), .v (.slice none 0 0)])] Q3 J2 rfl ?_
 refine sg ?_
 obtain ⟨x1, hx1, h⟩ := bindS h
 refine CallOk.chgLe (id := 1000) (w_chunk_reader_int hx1) rfl (.box (.cons (lr) (.cons (lr) (.nil)))) rfl (.cons (Lr.b) (.nil)) ?_
 rintro _ _ ⟨rfl, rfl⟩
 obtain ⟨x2, hx2, h⟩ := bindS h
 refine CallOk.chgLe (id := 1000) (w_chunk_reader_int hx2) rfl (.box (.cons (lr) (.cons (lr) (.nil)))) rfl (.cons (Lr.b) (.nil)) ?_
 rintro _ _ ⟨rfl, rfl⟩
 refine ⟨_, rfl, ?_⟩
 refine wT [(0, .b 1000 0), (2, .b 2 0), (5, .b 5 0)] [(1000, .box [.s (mA x2.2.b_), vb x2.2.bad_]), (2, .box [vi (0), vi (0), .v (.slice none 0 0), .v (.slice none 0 0)]), (5, .box [vi x1.1, vi x2.1, .v (.slice none 0 0), .v (.slice none 0 0)])] Q3 J3 rfl ?_
 refine sg ?_
 obtain ⟨x3, hx3, h⟩ := bindS h
 refine CallOk.chgLe (id := 1000) (w_chunk_take_string__pack_ReadStr hx3) rfl (.box (.cons (lr) (.cons (lr) (.nil)))) rfl (.cons (Lr.b) (.cons (Lr.imm rfl) (.nil))) ?_
 rintro _ _ ⟨rfl, rfl⟩
 obtain ⟨hc1, h⟩ := chk_some h
 refine ⟨str_max hc1, _, rfl, ?_⟩
 refine wT [(0, .b 1000 0), (2, .b 2 0), (5, .b 5 0)] [(1000, .box [.s (mA x3.2.b_), vb x3.2.bad_]), (2, .box [vi (0), vi (0), .v (.slice none 0 0), .v (.slice none 0 0)]), (5, .box [vi x1.1, vi x2.1, .s (mA x3.1), .v (.slice none 0 0)])] Q3 J3 rfl ?_
 refine sg ?_
 obtain ⟨x4, hx4, h⟩ := bindS h
 refine CallOk.chgLe (id := 1000) (w_chunk_take_int__pack_ReadInts hx4) rfl (.box (.cons (lr) (.cons (lr) (.nil)))) rfl (.cons (Lr.b) (.cons (Lr.imm rfl) (.nil))) ?_
 rintro _ _ ⟨rfl, rfl⟩
 refine ⟨_, rfl, ?_⟩
 refine wT [(0, .b 1000 0), (2, .b 2 0), (5, .b 5 0)] [(1000, .box [.s (mA x4.2.b_), vb x4.2.bad_]), (2, .box [vi (0), vi (0), .v (.slice none 0 0), .v (.slice none 0 0)]), (5, .box [vi x1.1, vi x2.1, .s (mA x3.1), .s (mI x4.1)])] Q3 J3 rfl ?_
 obtain ⟨v1, hv1, h⟩ := bindS h
 refine Ok.seqw ⟨Cat.tab [(2, .b 2 0), (3, vb v1)], [(2, .box [vi x1.1, vi x2.1, .s (mA x3.1), .s (mI x4.1)]), (1000, .box [.s (mA x4.2.b_), vb x4.2.bad_])]⟩ ?_ ?_
 ·refine Ok.draw2 (m := 14) (late := [7, 8, 9, 10, 11, 12, 13]) (MD := ⟨[]⟩) (CH := ⟨[]⟩) Tryz.tok Tryz.mixed (by kernel_rfl) ?_
  refine ⟨_, ⟨_, rfl, rfl⟩, _, rfl, _, rfl, _, rfl, _, ⟨_, rfl, rfl⟩, _, rfl, _, rfl, ?_⟩
  obtain ⟨c1, hg1, hv1⟩ := bindS hv1
  refine Br.ite hg1 (fun hb hg1 => ?_) fun hb hg1 => ?_
  ·refine ⟨_, rfl, _, rfl, _, rfl, _, ⟨_, rfl, rfl⟩, _, ⟨_, List.length_map _, fun _ => rfl⟩, _, rfl, ?_⟩
   cases hg1
   refine ⟨_, rfl, ?_⟩
   refine ⟨Q0, ?_⟩
   refine ⟨_, rfl, ⟨⟨_, rfl, _, rfl, .inl ⟨rfl, rfl⟩⟩, ⟨_, rfl, _, rfl, .inl ⟨rfl, rfl⟩⟩, ⟨_, rfl, _, rfl, .inl ⟨rfl, rfl⟩⟩, ⟨_, rfl, _, rfl, .inl ⟨rfl, _, rfl, rfl⟩⟩, ⟨_, rfl, _, rfl, .inl ⟨rfl, _, List.length_map _, fun _ => rfl⟩⟩, ⟨_, rfl, _, rfl, .inl ⟨rfl, rfl⟩⟩, ⟨_, rfl, rfl⟩, Q0⟩, ?_⟩
   cases hv1
   exact wt Q2 J2 rfl
  cases hg1
  refine ⟨_, rfl, ?_⟩
  refine ⟨Q0, ?_⟩
  refine ⟨_, rfl, ⟨⟨_, rfl, _, rfl, .inr (.inl ⟨rfl, rfl⟩)⟩, ⟨_, rfl, _, rfl, .inr (.inl ⟨rfl, rfl⟩)⟩, ⟨_, rfl, _, rfl, .inr (.inl ⟨rfl, rfl⟩)⟩, ⟨_, rfl, _, rfl, .inr (.inl ⟨rfl, rfl⟩)⟩, ⟨_, rfl, _, rfl, .inr (.inl ⟨rfl, rfl⟩)⟩, ⟨_, rfl, _, rfl, .inr (.inl ⟨rfl, rfl⟩)⟩, ⟨_, rfl, rfl⟩, Q0⟩, ?_⟩
  cases hv1
  exact wt Q2 J2 rfl
 refine rt ?_
 cases h
 exact ⟨_, rfl, _, _, ⟨rfl, rfl⟩, rfl, rfl, (Fz.t (.cons (Fz.imm rfl) (.cons Fz.v .nil)))⟩
theorem w_bytes_Equal {p_a} {p_b} {r} (h : bytes_Equal p_a p_b = some r) : Pure Tryz.prog 70 [(.s (mA p_a)), (.s (mA p_b))] (vb r) := by
 refine po Tryz.tok 10 Tryz.func70 (by kernel_rfl) rfl rfl rfl ?_
 unfold bytes_Equal at h
 refine wE [(0, .s (mA p_a)), (1, .s (mA p_b))] Q2 ?_
 refine sg ?_
 refine wE [(0, .s (mA p_a)), (1, .s (mA p_b))] Q2 ?_
 refine sg ?_
 refine ⟨_, rfl, _, rfl, _, str_eql _ _, ?_⟩
 refine wE [(4, vb (p_a == p_b))] Q1 ?_
 refine rt ?_
 cases h
 exact Fz.v
theorem w_chunk_Get {p_d} {p_id} {r} (h : chunk_Get p_d p_id = some r) : Pure Tryz.prog 39 [(.a [(.s (mU p_d.Synced)), (.s (mU p_d.Loose)), (vb p_d.Down)]), (vi p_id)] (.t [(.a [(vi r.1.Id), (vi r.1.Ver), (.s (mA r.1.Data)), (.s (mI r.1.Sums))]), (vi r.2)]) := by
 refine po Tryz.tok 61 Tryz.func39 (by kernel_rfl) rfl rfl rfl ?_
 unfold chunk_Get at h
 refine wE [(0, .a [.s (mU p_d.Synced), .s (mU p_d.Loose), vb p_d.Down]), (1, vi p_id)] Q2 ?_
 refine sg ?_
 refine wT [(1, vi p_id), (2, .b 2 0), (4, .b 4 0)] [(2, .box [.s (mU p_d.Synced), .s (mU p_d.Loose), vb p_d.Down]), (4, .box [vi (0), vi (0), .v (.slice none 0 0), .v (.slice none 0 0)])] Q3 J2 rfl ?_
 refine sg ?_
 obtain ⟨x1, hx1, h⟩ := bindS h
 refine ⟨_, rfl, ?_⟩
 refine CallOk.call (w_chunk_there hx1) (LeL.refl _) ?_
 refine wT [(1, vi p_id), (4, .b 4 0), (6, .s (mA x1.1)), (7, vi x1.2)] [(4, .box [vi (0), vi (0), .v (.slice none 0 0), .v (.slice none 0 0)])] Q4 J1 rfl ?_
 refine sq ?_
 refine bl ?_
 refine sg ?_
 refine wT [(1, vi p_id), (4, .b 4 0), (6, .s (mA x1.1)), (7, vi x1.2), (17, vb (x1.2 != 0))] [(4, .box [vi (0), vi (0), .v (.slice none 0 0), .v (.slice none 0 0)])] Q5 J1 rfl ?_
 refine cn 17 (x1.2 != 0) rfl h (fun hb h => ?_) fun hb h => ?_
 ·refine sg ?_
  refine ⟨_, rfl, ?_⟩
  refine wT [(4, .b 4 0), (5, vi x1.2)] [(4, .box [vi (0), vi (0), .v (.slice none 0 0), .v (.slice none 0 0)])] Q2 J1 rfl ?_
  refine rt ?_
  cases h
  exact ⟨_, rfl, (Fz.t (.cons (Fz.a (.cons Fz.v (.cons Fz.v (.cons Fz.nil (.cons Fz.nil .nil))))) (.cons Fz.v .nil)))⟩
 refine sg ?_
 refine ⟨_, List.length_map _, fun _ => ?_⟩
 refine wT [(1, vi p_id), (4, .b 4 0), (6, .s (mA x1.1)), (22, vb (decide ((x1.1.length : Int) < 4)))] [(4, .box [vi (0), vi (0), .v (.slice none 0 0), .v (.slice none 0 0)])] Q4 J1 rfl ?_
 refine cn 22 (decide ((x1.1.length : Int) < 4)) rfl h (fun hb h => ?_) fun hb h => ?_
 ·refine sg ?_
  refine ⟨_, rfl, ?_⟩
  refine wT [(4, .b 4 0), (5, vi (251))] [(4, .box [vi (0), vi (0), .v (.slice none 0 0), .v (.slice none 0 0)])] Q2 J1 rfl ?_
  refine rt ?_
  cases h
  exact ⟨_, rfl, (Fz.t (.cons (Fz.a (.cons Fz.v (.cons Fz.v (.cons Fz.nil (.cons Fz.nil .nil))))) (.cons Fz.v .nil)))⟩
 refine sk ?_
 refine sg ?_
 obtain ⟨hc1, h⟩ := chk_some h
 obtain ⟨hc2, h⟩ := chk_some h
 refine ⟨_, List.length_map _, fun _ => (Or.inl ⟨hc1, _, sl_nat hc2.1, Nat.zero_le _, sl_len hc2, rowsK (f := cU8) (K := 1) (fun _ => rfl) x1.1, _, sl_take _ _ _, ?_⟩)⟩
 refine wT [(1, vi p_id), (4, .b 4 0), (6, .s (mA x1.1)), (8, .b 33 0)] [(4, .box [vi (0), vi (0), .v (.slice none 0 0), .v (.slice none 0 0)]), (33, .box [.s (mA (x1.1.take ((x1.1.length : Int) - 4).toNat)), vb false])] Q4 J2 rfl ?_
 refine sg ?_
 obtain ⟨x2, hx2, h⟩ := bindS h
 refine CallOk.chgLe (id := 33) (w_chunk_reader_copy hx2) rfl (.box (.cons (lr) (.cons (lr) (.nil)))) rfl (.cons (Lr.b) (.nil)) ?_
 rintro _ _ ⟨rfl, rfl⟩
 refine ⟨_, rfl, ?_⟩
 refine wT [(1, vi p_id), (4, .b 4 0), (6, .s (mA x1.1)), (9, .b 9 0), (10, vb x2.1.2)] [(4, .box [vi (0), vi (0), .v (.slice none 0 0), .v (.slice none 0 0)]), (9, .box [vi x2.1.1.Id, vi x2.1.1.Ver, .s (mA x2.1.1.Data), .s (mI x2.1.1.Sums)])] Q5 J2 rfl ?_
 refine sq ?_
 obtain ⟨v1, hv1, h⟩ := bindS h
 refine Ok.seqw ⟨Cat.tab [(4, .b 4 0), (9, .b 9 0), (58, vb v1)], [(4, .box [vi (0), vi (0), .v (.slice none 0 0), .v (.slice none 0 0)]), (9, .box [vi x2.1.1.Id, vi x2.1.1.Ver, .s (mA x2.1.1.Data), .s (mI x2.1.1.Sums)])]⟩ ?_ ?_
 ·refine rg ?_
  obtain ⟨c1, hg1, hv1⟩ := bindS hv1
  refine Br.itf hg1 (fun hb hg1 => ?_) fun hb hg1 => ?_
  ·cases hg1
   obtain ⟨c2, hg2, hv1⟩ := bindS hv1
   replace hg2 := iteT hg2
   cases hg2
   obtain ⟨c3, hg3, hv1⟩ := bindS hv1
   replace hg3 := iteT hg3
   cases hg3
   cases hv1
   exact wt Q3 J2 rfl
  obtain ⟨x3, hx3, hg1⟩ := bindS hg1
  refine ⟨_, rfl, ?_⟩
  refine CallOk.call (w_chunk_may hx3) (LeL.refl _) ?_
  cases hg1
  obtain ⟨c2, hg4, hv1⟩ := bindS hv1
  refine Br.itf hg4 (fun hb hg4 => ?_) fun hb hg4 => ?_
  ·cases hg4
   obtain ⟨c3, hg5, hv1⟩ := bindS hv1
   replace hg5 := iteT hg5
   cases hg5
   cases hv1
   exact wt Q3 J2 rfl
  refine ⟨_, rfl, ?_⟩
  cases hg4
  obtain ⟨c3, hg6, hv1⟩ := bindS hv1
  refine Br.itf hg6 (fun hb hg6 => ?_) fun hb hg6 => ?_
  ·cases hg6
   cases hv1
   exact wt Q3 J2 rfl
  obtain ⟨x4, hx4, hg6⟩ := bindS hg6
  refine ⟨_, rfl, ?_⟩
  refine CallOk.call (w_chunk_page hx4) (LeL.refl _) ?_
  obtain ⟨x5, hx5, hg6⟩ := bindS hg6
  refine CallOk.call (w_bytes_Equal hx5) (LeL.refl _) ?_
  cases hg6
  cases hv1
  exact wt Q3 J2 rfl
 refine cn 58 (v1) rfl h (fun hb h => ?_) fun hb h => ?_
 ·refine sg ?_
  refine ⟨_, rfl, ?_⟩
  refine wT [(4, .b 4 0), (5, vi (251))] [(4, .box [vi (0), vi (0), .v (.slice none 0 0), .v (.slice none 0 0)])] Q2 J1 rfl ?_
  refine rt ?_
  cases h
  exact ⟨_, rfl, (Fz.t (.cons (Fz.a (.cons Fz.v (.cons Fz.v (.cons Fz.nil (.cons Fz.nil .nil))))) (.cons Fz.v .nil)))⟩
 refine sk ?_
 refine sg ?_
 refine ⟨_, rfl, _, rfl, ?_⟩
 refine wT [(4, .b 4 0), (5, vi (0))] [(4, .box [vi x2.1.1.Id, vi x2.1.1.Ver, .s (mA x2.1.1.Data), .s (mI x2.1.1.Sums)])] Q2 J1 rfl ?_
 refine rt ?_
 cases h
 exact ⟨_, rfl, (Fz.t (.cons (Fz.imm rfl) (.cons Fz.v .nil)))⟩
theorem w_scrub_stands {p_disks} {p_c} {p_s} {r} (h : scrub_stands p_disks p_c p_s = some r) : Pure Tryz.prog 59 [(.s (mB p_disks)), (.a [(vi p_c.Id), (vi p_c.Ver), (.s (mI p_c.Servers))]), (vi p_s)] (vi r) := by
 refine po Tryz.tok 48 Tryz.func59 (by kernel_rfl) rfl rfl rfl ?_
 unfold scrub_stands at h
 refine wE [(0, .s (mB p_disks)), (1, .a [vi p_c.Id, vi p_c.Ver, .s (mI p_c.Servers)]), (2, vi p_s)] Q3 ?_
 refine sg ?_
 refine wT [(0, .s (mB p_disks)), (2, vi p_s), (4, .b 4 0)] [(4, .box [vi p_c.Id, vi p_c.Ver, .s (mI p_c.Servers)])] Q3 J1 rfl ?_
 refine sq ?_
 obtain ⟨v1, hv1, h⟩ := bindS h
 refine Ok.seqw ⟨Cat.tab [(0, .s (mB p_disks)), (2, vi p_s), (4, .b 4 0), (19, vb v1)], [(4, .box [vi p_c.Id, vi p_c.Ver, .s (mI p_c.Servers)])]⟩ ?_ ?_
 ·refine rg ?_
  refine ⟨_, List.length_map _, fun _ => ?_⟩
  obtain ⟨c1, hg1, hv1⟩ := bindS hv1
  refine Br.itf hg1 (fun hb hg1 => ?_) fun hb hg1 => ?_
  ·cases hg1
   cases hv1
   exact wt Q4 J1 rfl
  obtain ⟨x1, hx1, hg1⟩ := bindS hg1
  refine ⟨_, idx_nat hx1, _, idx_row hx1, _, rfl, ?_⟩
  cases hg1
  cases hv1
  exact wt Q4 J1 rfl
 refine cn 19 (v1) rfl h (fun hb h => ?_) fun hb h => ?_
 ·refine sg ?_
  refine wE [(6, vi (1))] Q1 ?_
  refine rt ?_
  cases h
  exact Fz.v
 refine sk ?_
 refine sq ?_
 refine Ok.draw2 (m := 11) (late := [9]) (MD := ⟨[]⟩) (CH := ⟨[]⟩) Tryz.tok Tryz.mixed (by kernel_rfl) ?_
 obtain ⟨x2, hx2, h⟩ := bindS h
 obtain ⟨x3, hx3, h⟩ := bindS h
 refine ⟨_, rfl, _, rfl, _, ⟨_, idx_nat hx2, _, idx_row hx2, rfl⟩, _, ⟨_, rfl, rfl⟩, _, rfl, _, ⟨_, rfl, rfl⟩, _, ⟨_, .of_pure (w_chunk_Get hx3) (LeL.refl _), rfl⟩, _, rfl, _, rfl, _, rfl, Q0, ?_⟩
 refine ⟨_, rfl, ⟨⟨_, rfl, rfl⟩, Q0⟩, ?_⟩
 refine wT [(4, .b 4 0), (7, .b 7 0), (8, vi x3.2)] [(4, .box [vi p_c.Id, vi p_c.Ver, .s (mI p_c.Servers)]), (7, .box [vi x3.1.Id, vi x3.1.Ver, .s (mA x3.1.Data), .s (mI x3.1.Sums)])] Q3 J2 rfl ?_
 refine sq ?_
 refine bl ?_
 refine sg ?_
 refine wT [(4, .b 4 0), (7, .b 7 0), (8, vi x3.2), (30, vb (x3.2 == 41))] [(4, .box [vi p_c.Id, vi p_c.Ver, .s (mI p_c.Servers)]), (7, .box [vi x3.1.Id, vi x3.1.Ver, .s (mA x3.1.Data), .s (mI x3.1.Sums)])] Q4 J2 rfl ?_
 refine cn 30 (x3.2 == 41) rfl h (fun hb h => ?_) fun hb h => ?_
 ·refine sg ?_
  refine wE [(6, vi (2))] Q1 ?_
  refine rt ?_
  cases h
  exact Fz.v
 refine sg ?_
 refine wT [(4, .b 4 0), (7, .b 7 0), (33, vb (x3.2 != 0))] [(4, .box [vi p_c.Id, vi p_c.Ver, .s (mI p_c.Servers)]), (7, .box [vi x3.1.Id, vi x3.1.Ver, .s (mA x3.1.Data), .s (mI x3.1.Sums)])] Q3 J2 rfl ?_
 refine cn 33 (x3.2 != 0) rfl h (fun hb h => ?_) fun hb h => ?_
 ·refine sg ?_
  refine wE [(6, vi (3))] Q1 ?_
  refine rt ?_
  cases h
  exact Fz.v
 refine sg ?_
 refine ⟨_, rfl, _, rfl, ?_⟩
 refine wT [(4, .b 4 0), (7, .b 7 0), (36, vb (decide (x3.1.Ver < p_c.Ver)))] [(4, .box [vi p_c.Id, vi p_c.Ver, .s (mI p_c.Servers)]), (7, .box [vi x3.1.Id, vi x3.1.Ver, .s (mA x3.1.Data), .s (mI x3.1.Sums)])] Q3 J2 rfl ?_
 refine cn 36 (decide (x3.1.Ver < p_c.Ver)) rfl h (fun hb h => ?_) fun hb h => ?_
 ·refine sg ?_
  refine wE [(6, vi (4))] Q1 ?_
  refine rt ?_
  cases h
  exact Fz.v
 refine sg ?_
 refine ⟨_, rfl, _, rfl, ?_⟩
 refine wE [(42, vb (decide (x3.1.Ver > p_c.Ver)))] Q1 ?_
 refine cn 42 (decide (x3.1.Ver > p_c.Ver)) rfl h (fun hb h => ?_) fun hb h => ?_
 ·refine sg ?_
  refine wE [(6, vi (5))] Q1 ?_
  refine rt ?_
  cases h
  exact Fz.v
 refine sk ?_
 refine sg ?_
 refine wE [(6, vi (0))] Q1 ?_
 refine rt ?_
 cases h
 exact Fz.v
theorem wg_scrub_Look_R0_2 {l : Nat} {p_a1 : Int} {p_a2 : Int} {p_b1 : api_Chain} {p_h3 : List api_Find} {r : (List api_Find)} (h : scrub_Look_R0_2 p_a1 p_a2 p_b1 p_h3 = some r) : CallOk Tryz.prog (.y l) [(vi p_a1), (vi p_a2)] ⟨noSlots, (1000, .lp l .rdy Tryz.rf8_0 [(3, (.b 1001 0)), (5, (.b 1002 0))]) :: [(1001, .box [(vi p_b1.Id), (vi p_b1.Ver), (.s (mI p_b1.Servers))]), (1002, .box [(.o 1003)]), (1003, .own 50 3 (mD p_h3))]⟩ fun x s => x = .v (.bool (LS.isR .rdy)) ∧ s.H = (1000, .lp l .rdy Tryz.rf8_0 [(3, (.b 1001 0)), (5, (.b 1002 0))]) :: [(1001, .box [(vi p_b1.Id), (vi p_b1.Ver), (.s (mI p_b1.Servers))]), (1002, .box [(.o 999)]), (999, .own 50 3 (mD r))] := by
 letI : Rnds := Rnds.yes
 refine yield_of_ok (e0 := .rdy) (H1 := [(1001, .box [vi p_b1.Id, vi p_b1.Ver, .s (mI p_b1.Servers)]), (1002, .box [.o 999]), (999, .own 50 3 (mD r))]) (by kernel_rfl) (by kernel_rfl) rfl rfl rfl ?_
 unfold scrub_Look_R0_2 at h
 refine wT [(3, .b 1001 0), (5, .b 1002 0), (11, vi p_a1), (12, vi p_a2)] [(1001, .box [vi p_b1.Id, vi p_b1.Ver, .s (mI p_b1.Servers)]), (1002, .box [.o 1003]), (1003, .own 50 3 (mD p_h3))] Q4 J3 rfl ?_
 refine sg ?_
 refine wT [(3, .b 1001 0), (5, .b 1002 0), (6, vi p_a1), (12, vi p_a2)] [(1001, .box [vi p_b1.Id, vi p_b1.Ver, .s (mI p_b1.Servers)]), (1002, .box [.o 1003]), (1003, .own 50 3 (mD p_h3))] Q4 J3 rfl ?_
 refine rg ?_
 refine wT [(3, .b 1001 0), (5, .b 1002 0), (6, vi p_a1), (7, vi p_a2)] [(1001, .box [vi p_b1.Id, vi p_b1.Ver, .s (mI p_b1.Servers)]), (1002, .box [.o 1003]), (1003, .own 50 3 (mD p_h3))] Q4 J3 rfl ?_
 refine bl ?_
 refine sg ?_
 refine wT [(3, .b 1001 0), (5, .b 1002 0), (6, vi p_a1), (7, vi p_a2), (14, vb (p_a2 != 0))] [(1001, .box [vi p_b1.Id, vi p_b1.Ver, .s (mI p_b1.Servers)]), (1002, .box [.o 1003]), (1003, .own 50 3 (mD p_h3))] Q5 J3 rfl ?_
 refine cn 14 (p_a2 != 0) rfl h (fun hb h => ?_) fun hb h => ?_
 ·refine Ok.wk (Wk.mv (i := 1003) (d := 999) rfl rfl rfl) ?_
  refine rg ?_
  obtain ⟨hc1, h⟩ := chk_some h
  refine ⟨_, rfl, _, rfl, Or.inl ⟨rowsLen_map (f := c_api_Find) (n := 3) (fun _ => rfl) ([(⟨p_b1.Id, p_a1, p_a2⟩ : api_Find)]), app_b2 (f := c_api_Find) (l := p_h3) (l' := [(⟨p_b1.Id, p_a1, p_a2⟩ : api_Find)]) hc1, _, (List.map_append (f := c_api_Find) (l₁ := p_h3) (l₂ := [(⟨p_b1.Id, p_a1, p_a2⟩ : api_Find)])).symm, _, rfl, ?_⟩⟩
  cases h
  exact ⟨rfl, wt Q0 ⟨⟨_, rfl, .refl _⟩, ⟨_, rfl, .refl _⟩, ⟨_, rfl, .refl _⟩, Q0⟩ rfl⟩
 refine sk ?_
 cases h
 exact ⟨rfl, (Wk.mv (i := 1003) (d := 999) rfl rfl rfl).trans (wt Q0 ⟨⟨_, rfl, .refl _⟩, ⟨_, rfl, .refl _⟩, ⟨_, rfl, .refl _⟩, Q0⟩ rfl)⟩
theorem wg_scrub_all_1 {l : Nat} {p_b1 : api_Chain} {p_b3 : api_Chain} {p_b4 : List api_Disk} {r : (List api_Find)} (h : scrub_all_1 p_b1 p_b3 p_b4 = some r) : CallOk Tryz.prog 58 [(.c (.yield l) [] []), (.b 1003 0), (.b 1004 0)] ⟨noSlots, [(1000, .lp l .rdy Tryz.rf8_0 [(3, (.b 1001 0)), (5, (.b 1002 0))]), (1001, .box [(vi p_b1.Id), (vi p_b1.Ver), (.s (mI p_b1.Servers))]), (1002, .box [(.v (.slice none 0 0))]), (1003, .box [(vi p_b3.Id), (vi p_b3.Ver), (.s (mI p_b3.Servers))]), (1004, .box [(.s (mB p_b4))])]⟩ fun x s => x = (.t []) ∧ s.H = [(1000, .lp l .rdy Tryz.rf8_0 [(3, (.b 1001 0)), (5, (.b 1002 0))]), (1001, .box [(vi p_b1.Id), (vi p_b1.Ver), (.s (mI p_b1.Servers))]), (1002, .box [(.o 999)]), (1003, .box [(vi p_b3.Id), (vi p_b3.Ver), (.s (mI p_b3.Servers))]), (1004, .box [(.s (mB p_b4))]), (999, .own 50 3 (mD r))] := by
 refine pgen_of_ok (n := 22) (c := Tryz.f58.body.getD .skip) Tryz.tok Tryz.func58 (by kernel_rfl) rfl rfl (Nat.le_of_ble_eq_true rfl) ?_
 unfold scrub_all_1 at h
 refine wT [(0, .c (.yield l) [] []), (1, .b 1003 0), (2, .b 1004 0)] [(1000, .lp l .rdy Tryz.rf8_0 [(3, .b 1001 0), (5, .b 1002 0)]), (1001, .box [vi p_b1.Id, vi p_b1.Ver, .s (mI p_b1.Servers)]), (1002, .box [.v (.slice none 0 0)]), (1003, .box [vi p_b3.Id, vi p_b3.Ver, .s (mI p_b3.Servers)]), (1004, .box [.s (mB p_b4)])] Q3 ⟨hr, J4⟩ rfl ?_
 refine sg ?_
 refine ⟨_, rfl, _, List.length_map _, fun _ => ?_⟩
 refine wT [(0, .c (.yield l) [] []), (1, .b 1003 0), (2, .b 1004 0), (7, .s (mI p_b3.Servers)), (8, vi (p_b3.Servers.length : Int)), (9, vi (0))] [(1000, .lp l .rdy Tryz.rf8_0 [(3, .b 1001 0), (5, .b 1002 0)]), (1001, .box [vi p_b1.Id, vi p_b1.Ver, .s (mI p_b1.Servers)]), (1002, .box [.v (.slice none 0 0)]), (1003, .box [vi p_b3.Id, vi p_b3.Ver, .s (mI p_b3.Servers)]), (1004, .box [.s (mB p_b4)])] Q6 ⟨hr, J4⟩ rfl ?_
 refine bl ?_
 refine Ok.loop (fun (s1 : Int × (List api_Find)) => ⟨Cat.tab [(0, .c (.yield l) [] []), (1, .b 1003 0), (2, .b 1004 0), (7, .s (mI p_b3.Servers)), (8, vi (p_b3.Servers.length : Int)), (9, vi s1.1)], [(1000, .lp l .rdy Tryz.rf8_0 [(3, .b 1001 0), (5, .b 1002 0)]), (1001, .box [vi p_b1.Id, vi p_b1.Ver, .s (mI p_b1.Servers)]), (1002, .box [.o 999]), (999, .own 50 3 (mD s1.2)), (1003, .box [vi p_b3.Id, vi p_b3.Ver, .s (mI p_b3.Servers)]), (1004, .box [.s (mB p_b4)])]⟩) (scrub_all_1_B1 p_b3 p_b4 p_b1) (s0 := (0, [])) h ((Wk.ownb (b := 1002) (q := 0) (id := 999) (E := 50) (K := 3) rfl rfl rfl).trans (wt Q6 ⟨⟨_, rfl, .refl _⟩, ⟨_, rfl, .refl _⟩, ⟨_, rfl, .refl _⟩, ⟨_, rfl, .refl _⟩, ⟨_, rfl, .refl _⟩, ⟨_, rfl, .refl _⟩, Q0⟩ rfl)) ?_
 intro s1 y1 hB1 hy1
 unfold scrub_all_1_B1 at hB1
 refine sg ?_
 refine wT [(0, .c (.yield l) [] []), (1, .b 1003 0), (2, .b 1004 0), (7, .s (mI p_b3.Servers)), (8, vi (p_b3.Servers.length : Int)), (9, vi s1.1), (10, vb (decide (s1.1 < (p_b3.Servers.length : Int))))] [(1000, .lp l .rdy Tryz.rf8_0 [(3, .b 1001 0), (5, .b 1002 0)]), (1001, .box [vi p_b1.Id, vi p_b1.Ver, .s (mI p_b1.Servers)]), (1002, .box [.o 999]), (999, .own 50 3 (mD s1.2)), (1003, .box [vi p_b3.Id, vi p_b3.Ver, .s (mI p_b3.Servers)]), (1004, .box [.s (mB p_b4)])] Q7 ⟨hr, hr, J4⟩ rfl ?_
 refine sq ?_
 refine cn 10 (decide (s1.1 < (p_b3.Servers.length : Int))) rfl hB1 (fun hb hB1 => ?_) fun hb hB1 => ?_
 ·refine sk ?_
  refine sq ?_
  refine bl ?_
  refine sg ?_
  obtain ⟨x1, hx1, hB1⟩ := bindS hB1
  refine ⟨_, idx_nat hx1, _, idx_row hx1, _, rfl, ?_⟩
  refine wT [(0, .c (.yield l) [] []), (1, .b 1003 0), (2, .b 1004 0), (5, vi x1), (7, .s (mI p_b3.Servers)), (8, vi (p_b3.Servers.length : Int)), (9, vi s1.1)] [(1000, .lp l .rdy Tryz.rf8_0 [(3, .b 1001 0), (5, .b 1002 0)]), (1001, .box [vi p_b1.Id, vi p_b1.Ver, .s (mI p_b1.Servers)]), (1002, .box [.o 999]), (999, .own 50 3 (mD s1.2)), (1003, .box [vi p_b3.Id, vi p_b3.Ver, .s (mI p_b3.Servers)]), (1004, .box [.s (mB p_b4)])] Q7 ⟨hr, hr, J4⟩ rfl ?_
  refine sg ?_
  obtain ⟨x2, hx2, hB1⟩ := bindS hB1
  refine ⟨_, rfl, _, rfl, ?_⟩
  refine CallOk.call (w_scrub_stands hx2) (LeL.refl _) ?_
  obtain ⟨x3, hx3, hB1⟩ := bindS hB1
  refine CallOk.gen (m := [(1000, 1000), (1001, 1001), (1002, 1002), (1003, 999)]) (n := [(999, 999)]) (wg_scrub_Look_R0_2 hx3) (.cons (Ln.imm rfl) (.cons (Ln.imm rfl) (.nil))) ⟨⟨1000, _, rfl, rfl, .lp rfl ⟨rfl, Ln.b rfl, rfl, Ln.b rfl, Q0⟩⟩, ⟨1001, _, rfl, rfl, .box (.cons (Ln.imm rfl) (.cons (Ln.imm rfl) (.cons (Ln.imm rfl) (.nil))))⟩, ⟨1002, _, rfl, rfl, .box (.cons (Ln.o rfl) (.nil))⟩, ⟨999, _, rfl, rfl, .refl rfl⟩, Q0⟩ rfl rfl rfl ?_
  refine wT [(0, .c (.yield l) [] []), (1, .b 1003 0), (2, .b 1004 0), (7, .s (mI p_b3.Servers)), (8, vi (p_b3.Servers.length : Int)), (9, vi s1.1), (20, vb (!true))] [(1000, .lp l .rdy Tryz.rf8_0 [(3, .b 1001 0), (5, .b 1002 0)]), (1001, .box [vi p_b1.Id, vi p_b1.Ver, .s (mI p_b1.Servers)]), (1002, .box [.o 999]), (999, .own 50 3 (mD x3)), (1003, .box [vi p_b3.Id, vi p_b3.Ver, .s (mI p_b3.Servers)]), (1004, .box [.s (mB p_b4)])] Q7 ⟨hr, hr, J4⟩ rfl ?_
  refine Ok.condF rfl ?_
  refine sk ?_
  refine rg ?_
  obtain ⟨hc1, hB1⟩ := chk_some hB1
  refine (Or.inl ⟨hc1, ?_⟩)
  exact ⟨_, sj hB1, wt Q6 ⟨hr, hr, J4⟩ rfl⟩
 refine xt ?_
 have hB1 := out_ret hB1 hy1
 cases hB1
 exact wt Q1 ⟨hr, hr, J4⟩ rfl
theorem wo_scrub_Look {p_disks} {p_c} {r} (h : scrub_Look p_disks p_c = some r) : POwn Tryz.prog 8 [(.s (mB p_disks)), (.a [(vi p_c.Id), (vi p_c.Ver), (.s (mI p_c.Servers))])] 50 3 (mD r) := by
 refine pw Tryz.tok 24 Tryz.func8 (by kernel_rfl) rfl rfl rfl ?_
 unfold scrub_Look at h
 refine wE [(0, .s (mB p_disks)), (1, .a [vi p_c.Id, vi p_c.Ver, .s (mI p_c.Servers)])] Q2 ?_
 refine sg ?_
 refine wT [(0, .s (mB p_disks)), (3, .b 3 0)] [(3, .box [vi p_c.Id, vi p_c.Ver, .s (mI p_c.Servers)])] Q2 J1 rfl ?_
 refine sg ?_
 refine wT [(0, .s (mB p_disks)), (3, .b 3 0), (5, .b 5 0)] [(3, .box [vi p_c.Id, vi p_c.Ver, .s (mI p_c.Servers)]), (5, .box [.v (.slice none 0 0)])] Q3 J2 rfl ?_
 refine sq ?_
 refine sg ?_
 obtain ⟨x1, hx1, h⟩ := bindS h
 refine ⟨_, rfl, ?_⟩
 refine CallOk.gen (m := []) (n := [(3, 999), (2, 998)]) (wg_scrub_all hx1) (.cons (Ln.imm rfl) (.cons (Ln.imm rfl) (.nil))) Q0 rfl rfl rfl ?_
 refine wT [(3, .b 3 0), (5, .b 5 0), (10, .c (.func 58) [] [.b 999 0, .b 998 0])] [(3, .box [vi p_c.Id, vi p_c.Ver, .s (mI p_c.Servers)]), (5, .box [.v (.slice none 0 0)]), (999, .box [vi p_c.Id, vi p_c.Ver, .s (mI p_c.Servers)]), (998, .box [.s (mB p_disks)])] Q3 J4 rfl ?_
 refine bl ?_
 obtain ⟨x2, hx2, h⟩ := bindS h
 refine Ok.rangeFunc (lid := 997) (R0 := Tryz.rf8_0) (L := [(3, .b 3 0), (5, .b 5 0)]) (by kernel_rfl) rfl rfl Q2 (fun l => CallOk.gen (m := [(1000, 997), (1001, 3), (1002, 5), (1003, 999), (1004, 998)]) (n := [(999, 996)]) (wg_scrub_all_1 hx2) (.cons (Ln.c .nil .nil) (.cons (Ln.b rfl) (.cons (Ln.b rfl) (.nil)))) ⟨⟨997, _, rfl, rfl, .lp rfl ⟨rfl, Ln.b rfl, rfl, Ln.b rfl, Q0⟩⟩, ⟨3, _, rfl, rfl, .box (.cons (Ln.imm rfl) (.cons (Ln.imm rfl) (.cons (Ln.imm rfl) (.nil))))⟩, ⟨5, _, rfl, rfl, .box (.cons (Ln.imm rfl) (.nil))⟩, ⟨999, _, rfl, rfl, .box (.cons (Ln.imm rfl) (.cons (Ln.imm rfl) (.cons (Ln.imm rfl) (.nil))))⟩, ⟨998, _, rfl, rfl, .box (.cons (Ln.imm rfl) (.nil))⟩, Q0⟩ rfl rfl rfl ⟨_, _, _, rfl, ?_⟩)
 refine wT [(5, .b 5 0)] [(5, .box [.o 996]), (996, .own 50 3 (mD x2))] Q1 J2 rfl ?_
 refine sg ?_
 refine ⟨_, rfl, ?_⟩
 refine wT [(4, .o 996)] [(996, .own 50 3 (mD x2))] Q1 J1 rfl ?_
 refine rt ?_
 cases h
 exact (.inr ⟨_, rfl, rfl⟩)
theorem w_scrub_Look {p_disks} {p_c} {r} (h : scrub_Look p_disks p_c = some r) : Pure Tryz.prog 8 [(.s (mB p_disks)), (.a [(vi p_c.Id), (vi p_c.Ver), (.s (mI p_c.Servers))])] (.s (mD r)) := (wo_scrub_Look h).pure
theorem wg_scrub_Intact_R0_2 {l : Nat} {p_a1 : Int} {p_a2 : Int} {p_h2 : List Int} {r : (List Int)} (h : scrub_Intact_R0_2 p_a1 p_a2 p_h2 = some r) : CallOk Tryz.prog (.y l) [(vi p_a1), (vi p_a2)] ⟨noSlots, (1000, .lp l .rdy Tryz.rf9_0 [(5, (.b 1001 0))]) :: [(1001, .box [(.o 1002)]), (1002, .own 3 1 (mI p_h2))]⟩ fun x s => x = .v (.bool (LS.isR .rdy)) ∧ s.H = (1000, .lp l .rdy Tryz.rf9_0 [(5, (.b 1001 0))]) :: [(1001, .box [(.o 999)]), (999, .own 3 1 (mI r))] := by
 letI : Rnds := Rnds.yes
 refine yield_of_ok (e0 := .rdy) (H1 := [(1001, .box [.o 999]), (999, .own 3 1 (mI r))]) (by kernel_rfl) (by kernel_rfl) rfl rfl rfl ?_
 unfold scrub_Intact_R0_2 at h
 refine wT [(5, .b 1001 0), (11, vi p_a1), (12, vi p_a2)] [(1001, .box [.o 1002]), (1002, .own 3 1 (mI p_h2))] Q3 J2 rfl ?_
 refine sg ?_
 refine wT [(5, .b 1001 0), (6, vi p_a1), (12, vi p_a2)] [(1001, .box [.o 1002]), (1002, .own 3 1 (mI p_h2))] Q3 J2 rfl ?_
 refine rg ?_
 refine wT [(5, .b 1001 0), (6, vi p_a1), (7, vi p_a2)] [(1001, .box [.o 1002]), (1002, .own 3 1 (mI p_h2))] Q3 J2 rfl ?_
 refine bl ?_
 refine sg ?_
 refine wT [(5, .b 1001 0), (6, vi p_a1), (14, vb (p_a2 == 0))] [(1001, .box [.o 1002]), (1002, .own 3 1 (mI p_h2))] Q3 J2 rfl ?_
 refine cn 14 (p_a2 == 0) rfl h (fun hb h => ?_) fun hb h => ?_
 ·refine Ok.wk (Wk.mv (i := 1002) (d := 999) rfl rfl rfl) ?_
  refine rg ?_
  obtain ⟨hc1, h⟩ := chk_some h
  refine ⟨_, rfl, Or.inl ⟨rowsLen_map (f := Go.Cat.encI) (n := 1) (fun _ => rfl) ([p_a1]), app_b2 (f := Go.Cat.encI) (l := p_h2) (l' := [p_a1]) hc1, _, (List.map_append (f := Go.Cat.encI) (l₁ := p_h2) (l₂ := [p_a1])).symm, _, rfl, ?_⟩⟩
  cases h
  exact ⟨rfl, wt Q0 ⟨⟨_, rfl, .refl _⟩, ⟨_, rfl, .refl _⟩, Q0⟩ rfl⟩
 refine sk ?_
 cases h
 exact ⟨rfl, (Wk.mv (i := 1002) (d := 999) rfl rfl rfl).trans (wt Q0 ⟨⟨_, rfl, .refl _⟩, ⟨_, rfl, .refl _⟩, Q0⟩ rfl)⟩
theorem wg_scrub_all_1_2 {l : Nat} {p_b2 : api_Chain} {p_b3 : List api_Disk} {r : (List Int)} (h : scrub_all_1_2 p_b2 p_b3 = some r) : CallOk Tryz.prog 58 [(.c (.yield l) [] []), (.b 1002 0), (.b 1003 0)] ⟨noSlots, [(1000, .lp l .rdy Tryz.rf9_0 [(5, (.b 1001 0))]), (1001, .box [(.v (.slice none 0 0))]), (1002, .box [(vi p_b2.Id), (vi p_b2.Ver), (.s (mI p_b2.Servers))]), (1003, .box [(.s (mB p_b3))])]⟩ fun x s => x = (.t []) ∧ s.H = [(1000, .lp l .rdy Tryz.rf9_0 [(5, (.b 1001 0))]), (1001, .box [(.o 999)]), (1002, .box [(vi p_b2.Id), (vi p_b2.Ver), (.s (mI p_b2.Servers))]), (1003, .box [(.s (mB p_b3))]), (999, .own 3 1 (mI r))] := by
 refine pgen_of_ok (n := 22) (c := Tryz.f58.body.getD .skip) Tryz.tok Tryz.func58 (by kernel_rfl) rfl rfl (Nat.le_of_ble_eq_true rfl) ?_
 unfold scrub_all_1_2 at h
 refine wT [(0, .c (.yield l) [] []), (1, .b 1002 0), (2, .b 1003 0)] [(1000, .lp l .rdy Tryz.rf9_0 [(5, .b 1001 0)]), (1001, .box [.v (.slice none 0 0)]), (1002, .box [vi p_b2.Id, vi p_b2.Ver, .s (mI p_b2.Servers)]), (1003, .box [.s (mB p_b3)])] Q3 J4 rfl ?_
 refine sg ?_
 refine ⟨_, rfl, _, List.length_map _, fun _ => ?_⟩
 refine wT [(0, .c (.yield l) [] []), (1, .b 1002 0), (2, .b 1003 0), (7, .s (mI p_b2.Servers)), (8, vi (p_b2.Servers.length : Int)), (9, vi (0))] [(1000, .lp l .rdy Tryz.rf9_0 [(5, .b 1001 0)]), (1001, .box [.v (.slice none 0 0)]), (1002, .box [vi p_b2.Id, vi p_b2.Ver, .s (mI p_b2.Servers)]), (1003, .box [.s (mB p_b3)])] Q6 J4 rfl ?_
 refine bl ?_
 refine Ok.loop (fun (s1 : Int × (List Int)) => ⟨Cat.tab [(0, .c (.yield l) [] []), (1, .b 1002 0), (2, .b 1003 0), (7, .s (mI p_b2.Servers)), (8, vi (p_b2.Servers.length : Int)), (9, vi s1.1)], [(1000, .lp l .rdy Tryz.rf9_0 [(5, .b 1001 0)]), (1001, .box [.o 999]), (999, .own 3 1 (mI s1.2)), (1002, .box [vi p_b2.Id, vi p_b2.Ver, .s (mI p_b2.Servers)]), (1003, .box [.s (mB p_b3)])]⟩) (scrub_all_1_2_B1 p_b2 p_b3) (s0 := (0, [])) h ((Wk.ownb (b := 1001) (q := 0) (id := 999) (E := 3) (K := 1) rfl rfl rfl).trans (wt Q6 ⟨⟨_, rfl, .refl _⟩, ⟨_, rfl, .refl _⟩, ⟨_, rfl, .refl _⟩, ⟨_, rfl, .refl _⟩, ⟨_, rfl, .refl _⟩, Q0⟩ rfl)) ?_
 intro s1 y1 hB1 hy1
 unfold scrub_all_1_2_B1 at hB1
 refine sg ?_
 refine wT [(0, .c (.yield l) [] []), (1, .b 1002 0), (2, .b 1003 0), (7, .s (mI p_b2.Servers)), (8, vi (p_b2.Servers.length : Int)), (9, vi s1.1), (10, vb (decide (s1.1 < (p_b2.Servers.length : Int))))] [(1000, .lp l .rdy Tryz.rf9_0 [(5, .b 1001 0)]), (1001, .box [.o 999]), (999, .own 3 1 (mI s1.2)), (1002, .box [vi p_b2.Id, vi p_b2.Ver, .s (mI p_b2.Servers)]), (1003, .box [.s (mB p_b3)])] Q7 ⟨hr, J4⟩ rfl ?_
 refine sq ?_
 refine cn 10 (decide (s1.1 < (p_b2.Servers.length : Int))) rfl hB1 (fun hb hB1 => ?_) fun hb hB1 => ?_
 ·refine sk ?_
  refine sq ?_
  refine bl ?_
  refine sg ?_
  obtain ⟨x1, hx1, hB1⟩ := bindS hB1
  refine ⟨_, idx_nat hx1, _, idx_row hx1, _, rfl, ?_⟩
  refine wT [(0, .c (.yield l) [] []), (1, .b 1002 0), (2, .b 1003 0), (5, vi x1), (7, .s (mI p_b2.Servers)), (8, vi (p_b2.Servers.length : Int)), (9, vi s1.1)] [(1000, .lp l .rdy Tryz.rf9_0 [(5, .b 1001 0)]), (1001, .box [.o 999]), (999, .own 3 1 (mI s1.2)), (1002, .box [vi p_b2.Id, vi p_b2.Ver, .s (mI p_b2.Servers)]), (1003, .box [.s (mB p_b3)])] Q7 ⟨hr, J4⟩ rfl ?_
  refine sg ?_
  obtain ⟨x2, hx2, hB1⟩ := bindS hB1
  refine ⟨_, rfl, _, rfl, ?_⟩
  refine CallOk.call (w_scrub_stands hx2) (LeL.refl _) ?_
  obtain ⟨x3, hx3, hB1⟩ := bindS hB1
  refine CallOk.gen (m := [(1000, 1000), (1001, 1001), (1002, 999)]) (n := [(999, 999)]) (wg_scrub_Intact_R0_2 hx3) (.cons (Ln.imm rfl) (.cons (Ln.imm rfl) (.nil))) ⟨⟨1000, _, rfl, rfl, .lp rfl ⟨rfl, Ln.b rfl, Q0⟩⟩, ⟨1001, _, rfl, rfl, .box (.cons (Ln.o rfl) (.nil))⟩, ⟨999, _, rfl, rfl, .refl rfl⟩, Q0⟩ rfl rfl rfl ?_
  refine wT [(0, .c (.yield l) [] []), (1, .b 1002 0), (2, .b 1003 0), (7, .s (mI p_b2.Servers)), (8, vi (p_b2.Servers.length : Int)), (9, vi s1.1), (20, vb (!true))] [(1000, .lp l .rdy Tryz.rf9_0 [(5, .b 1001 0)]), (1001, .box [.o 999]), (999, .own 3 1 (mI x3)), (1002, .box [vi p_b2.Id, vi p_b2.Ver, .s (mI p_b2.Servers)]), (1003, .box [.s (mB p_b3)])] Q7 ⟨hr, J4⟩ rfl ?_
  refine Ok.condF rfl ?_
  refine sk ?_
  refine rg ?_
  obtain ⟨hc1, hB1⟩ := chk_some hB1
  refine (Or.inl ⟨hc1, ?_⟩)
  exact ⟨_, sj hB1, wt Q6 ⟨hr, J4⟩ rfl⟩
 refine xt ?_
 have hB1 := out_ret hB1 hy1
 cases hB1
 exact wt Q1 ⟨hr, J4⟩ rfl
theorem wo_scrub_Intact {p_disks} {p_c} {r} (h : scrub_Intact p_disks p_c = some r) : POwn Tryz.prog 9 [(.s (mB p_disks)), (.a [(vi p_c.Id), (vi p_c.Ver), (.s (mI p_c.Servers))])] 3 1 (mI r) := by
 refine pw Tryz.tok 20 Tryz.func9 (by kernel_rfl) rfl rfl rfl ?_
 unfold scrub_Intact at h
 refine wE [(0, .s (mB p_disks)), (1, .a [vi p_c.Id, vi p_c.Ver, .s (mI p_c.Servers)])] Q2 ?_
 refine sg ?_
 refine wT [(0, .s (mB p_disks)), (3, .b 3 0)] [(3, .box [vi p_c.Id, vi p_c.Ver, .s (mI p_c.Servers)])] Q2 J1 rfl ?_
 refine sg ?_
 refine wT [(0, .s (mB p_disks)), (3, .b 3 0), (5, .b 5 0)] [(3, .box [vi p_c.Id, vi p_c.Ver, .s (mI p_c.Servers)]), (5, .box [.v (.slice none 0 0)])] Q3 J2 rfl ?_
 refine sq ?_
 refine sg ?_
 obtain ⟨x1, hx1, h⟩ := bindS h
 refine ⟨_, rfl, ?_⟩
 refine CallOk.gen (m := []) (n := [(3, 999), (2, 998)]) (wg_scrub_all hx1) (.cons (Ln.imm rfl) (.cons (Ln.imm rfl) (.nil))) Q0 rfl rfl rfl ?_
 refine wT [(5, .b 5 0), (10, .c (.func 58) [] [.b 999 0, .b 998 0])] [(5, .box [.v (.slice none 0 0)]), (999, .box [vi p_c.Id, vi p_c.Ver, .s (mI p_c.Servers)]), (998, .box [.s (mB p_disks)])] Q2 J3 rfl ?_
 refine bl ?_
 obtain ⟨x2, hx2, h⟩ := bindS h
 refine Ok.rangeFunc (lid := 997) (R0 := Tryz.rf9_0) (L := [(5, .b 5 0)]) (by kernel_rfl) rfl rfl Q1 (fun l => CallOk.gen (m := [(1000, 997), (1001, 5), (1002, 999), (1003, 998)]) (n := [(999, 996)]) (wg_scrub_all_1_2 hx2) (.cons (Ln.c .nil .nil) (.cons (Ln.b rfl) (.cons (Ln.b rfl) (.nil)))) ⟨⟨997, _, rfl, rfl, .lp rfl ⟨rfl, Ln.b rfl, Q0⟩⟩, ⟨5, _, rfl, rfl, .box (.cons (Ln.imm rfl) (.nil))⟩, ⟨999, _, rfl, rfl, .box (.cons (Ln.imm rfl) (.cons (Ln.imm rfl) (.cons (Ln.imm rfl) (.nil))))⟩, ⟨998, _, rfl, rfl, .box (.cons (Ln.imm rfl) (.nil))⟩, Q0⟩ rfl rfl rfl ⟨_, _, _, rfl, ?_⟩)
 refine wT [(5, .b 5 0)] [(5, .box [.o 996]), (996, .own 3 1 (mI x2))] Q1 J2 rfl ?_
 refine sg ?_
 refine ⟨_, rfl, ?_⟩
 refine wT [(4, .o 996)] [(996, .own 3 1 (mI x2))] Q1 J1 rfl ?_
 refine rt ?_
 cases h
 exact (.inr ⟨_, rfl, rfl⟩)
theorem w_scrub_Intact {p_disks} {p_c} {r} (h : scrub_Intact p_disks p_c = some r) : Pure Tryz.prog 9 [(.s (mB p_disks)), (.a [(vi p_c.Id), (vi p_c.Ver), (.s (mI p_c.Servers))])] (.s (mI r)) := (wo_scrub_Intact h).pure
theorem w_cmp_isNaN_int {p_x} {r} (h : cmp_isNaN_int p_x = some r) : Pure Tryz.prog 64 [(vi p_x)] (vb r) := by
 refine po Tryz.tok 6 Tryz.func64 (by kernel_rfl) rfl rfl rfl ?_
 unfold cmp_isNaN_int at h
 refine wE [(0, vi p_x)] Q1 ?_
 refine sg ?_
 refine wE [(0, vi p_x)] Q1 ?_
 refine sg ?_
 refine wE [(2, vb (p_x != p_x))] Q1 ?_
 refine rt ?_
 cases h
 exact Fz.v
theorem w_cmp_Compare_int {p_x} {p_y} {r} (h : cmp_Compare_int p_x p_y = some r) : Pure Tryz.prog 37 [(vi p_x), (vi p_y)] (vi r) := by
 refine po Tryz.tok 20 Tryz.func37 (by kernel_rfl) rfl rfl rfl ?_
 unfold cmp_Compare_int at h
 refine wE [(0, vi p_x), (1, vi p_y)] Q2 ?_
 refine sg ?_
 refine wE [(0, vi p_x), (1, vi p_y)] Q2 ?_
 refine sg ?_
 obtain ⟨x1, hx1, h⟩ := bindS h
 refine CallOk.call (w_cmp_isNaN_int hx1) (LeL.refl _) ?_
 refine wE [(0, vi p_x), (1, vi p_y), (5, vb x1)] Q3 ?_
 refine sg ?_
 obtain ⟨x2, hx2, h⟩ := bindS h
 refine CallOk.call (w_cmp_isNaN_int hx2) (LeL.refl _) ?_
 refine wE [(0, vi p_x), (1, vi p_y), (5, vb x1), (6, vb x2)] Q4 ?_
 refine sq ?_
 refine sg ?_
 refine wE [(0, vi p_x), (1, vi p_y), (6, vb x2), (11, vb x1)] Q4 ?_
 refine cn 11 (x1) rfl h (fun hb h => ?_) fun hb h => ?_
 ·refine sq ?_
  refine sg ?_
  refine wE [(12, vb x2)] Q1 ?_
  refine cn 12 (x2) rfl h (fun hb h => ?_) fun hb h => ?_
  ·refine sg ?_
   refine wE [(4, vi (0))] Q1 ?_
   refine rt ?_
   cases h
   exact Fz.v
  refine sk ?_
  refine sg ?_
  refine wE [(4, vi (-1))] Q1 ?_
  refine rt ?_
  cases h
  exact Fz.v
 refine sk ?_
 refine sq ?_
 refine sg ?_
 refine wE [(0, vi p_x), (1, vi p_y), (13, vb x2)] Q3 ?_
 refine cn 13 (x2) rfl h (fun hb h => ?_) fun hb h => ?_
 ·refine sg ?_
  refine wE [(4, vi (1))] Q1 ?_
  refine rt ?_
  cases h
  exact Fz.v
 refine sk ?_
 refine sq ?_
 refine sg ?_
 refine wE [(0, vi p_x), (1, vi p_y), (16, vb (decide (p_x < p_y)))] Q3 ?_
 refine cn 16 (decide (p_x < p_y)) rfl h (fun hb h => ?_) fun hb h => ?_
 ·refine sg ?_
  refine wE [(4, vi (-1))] Q1 ?_
  refine rt ?_
  cases h
  exact Fz.v
 refine sk ?_
 refine sq ?_
 refine sg ?_
 refine wE [(19, vb (decide (p_x > p_y)))] Q1 ?_
 refine cn 19 (decide (p_x > p_y)) rfl h (fun hb h => ?_) fun hb h => ?_
 ·refine sg ?_
  refine wE [(4, vi (1))] Q1 ?_
  refine rt ?_
  cases h
  exact Fz.v
 refine sk ?_
 refine sg ?_
 refine wE [(4, vi (0))] Q1 ?_
 refine rt ?_
 cases h
 exact Fz.v
theorem w_scrub_Plan_1 {p_a} {p_b} {r} (h : scrub_Plan_1 p_a p_b = some r) : Pure Tryz.prog 36 [(.a [(vi p_a.Id), (vi p_a.Server), (vi p_a.What)]), (.a [(vi p_b.Id), (vi p_b.Server), (vi p_b.What)])] (vi r) := by
 refine po Tryz.tok 10 Tryz.func36 (by kernel_rfl) rfl rfl rfl ?_
 unfold scrub_Plan_1 at h
 refine wE [(0, .a [vi p_a.Id, vi p_a.Server, vi p_a.What]), (1, .a [vi p_b.Id, vi p_b.Server, vi p_b.What])] Q2 ?_
 refine sg ?_
 refine wT [(2, .b 2 0), (3, .b 3 0)] [(2, .box [vi p_a.Id, vi p_a.Server, vi p_a.What]), (3, .box [vi p_b.Id, vi p_b.Server, vi p_b.What])] Q2 J2 rfl ?_
 refine sg ?_
 obtain ⟨x1, hx1, h⟩ := bindS h
 refine ⟨_, rfl, _, rfl, ?_⟩
 refine CallOk.call (w_cmp_Compare_int hx1) (LeL.refl _) ?_
 refine wE [(4, vi x1)] Q1 ?_
 refine rt ?_
 cases h
 exact Fz.v
theorem w_slices_Index_int_int {p_s} {p_v} {r} (h : slices_Index_int_int p_s p_v = some r) : Pure Tryz.prog 65 [(.s (mI p_s)), (vi p_v)] (vi r) := by
 refine po Tryz.tok 19 Tryz.func65 (by kernel_rfl) rfl rfl rfl ?_
 unfold slices_Index_int_int at h
 refine wE [(0, .s (mI p_s)), (1, vi p_v)] Q2 ?_
 refine sg ?_
 refine wE [(0, .s (mI p_s)), (1, vi p_v)] Q2 ?_
 refine Ok.seqj (fun v1 => ⟨Cat.tab [], []⟩) (fun v1 => slices_Index_int_int_J1 v1 = some r) ?_ ?_
 ·refine sg ?_
  refine ⟨_, List.length_map _, fun _ => ?_⟩
  refine wE [(0, .s (mI p_s)), (1, vi p_v), (7, vi (p_s.length : Int)), (8, vi (0))] Q4 ?_
  refine bl ?_
  refine Ok.loop (fun (s1 : Int) => ⟨Cat.tab [(0, .s (mI p_s)), (1, vi p_v), (7, vi (p_s.length : Int)), (8, vi s1)], []⟩) (slices_Index_int_int_B1 p_s p_v) (s0 := 0) h (wt Q4 Q0 rfl) ?_
  intro s1 y1 hB1 hy1
  unfold slices_Index_int_int_B1 at hB1
  refine sg ?_
  refine wE [(0, .s (mI p_s)), (1, vi p_v), (7, vi (p_s.length : Int)), (8, vi s1), (9, vb (decide (s1 < (p_s.length : Int))))] Q5 ?_
  refine sq ?_
  refine cn 9 (decide (s1 < (p_s.length : Int))) rfl hB1 (fun hb hB1 => ?_) fun hb hB1 => ?_
  ·refine sk ?_
   refine sq ?_
   refine bl ?_
   refine sg ?_
   refine wE [(0, .s (mI p_s)), (1, vi p_v), (5, vi s1), (7, vi (p_s.length : Int)), (8, vi s1)] Q5 ?_
   refine sg ?_
   obtain ⟨x1, hx1, hB1⟩ := bindS hB1
   refine ⟨_, idx_nat hx1, _, idx_row hx1, _, rfl, ?_⟩
   refine wE [(0, .s (mI p_s)), (1, vi p_v), (5, vi s1), (7, vi (p_s.length : Int)), (8, vi s1), (16, vb (p_v == x1))] Q6 ?_
   refine cn 16 (p_v == x1) rfl hB1 (fun hb hB1 => ?_) fun hb hB1 => ?_
   ·refine sg ?_
    refine wE [(4, vi s1)] Q1 ?_
    refine rt ?_
    have hB1 := out_ret hB1 hy1
    cases hB1
    exact Fz.v
   refine sk ?_
   refine rg ?_
   obtain ⟨hc1, hB1⟩ := chk_some hB1
   refine (Or.inl ⟨hc1, ?_⟩)
   exact ⟨_, sj hB1, wt Q4 Q0 rfl⟩
  refine xt ?_
  have hB1 := out_ret hB1 hy1
  exact ⟨_, hB1, wt Q0 Q0 rfl⟩
 intro v1 h
 unfold slices_Index_int_int_J1 at h
 refine sg ?_
 refine wE [(4, vi (-1))] Q1 ?_
 refine rt ?_
 cases h
 exact Fz.v
theorem w_scrub_next_1 {p_x} {p_a1_0} {p_a1_1} {p_a1_2} {p_a2_0} {r} (h : scrub_next_1 p_x p_a1_0 p_a1_1 p_a1_2 p_a2_0 = some r) : Pure Tryz.prog 66 [(vi p_x), (.p [(vi p_a1_0), (vi p_a1_1), (.s (mI p_a1_2))]), (.p [(vi p_a2_0)])] (vb r) := by
 refine po Tryz.tok 11 Tryz.func66 (by kernel_rfl) rfl rfl rfl ?_
 unfold scrub_next_1 at h
 refine wE [(0, vi p_x), (1, .p [vi p_a1_0, vi p_a1_1, .s (mI p_a1_2)]), (2, .p [vi p_a2_0])] Q3 ?_
 refine sg ?_
 refine wE [(0, vi p_x), (1, .p [vi p_a1_0, vi p_a1_1, .s (mI p_a1_2)]), (2, .p [vi p_a2_0])] Q3 ?_
 refine sq ?_
 refine Ok.draw (m := 7) (MD := ⟨[]⟩) (CH := ⟨[]⟩) Tryz.tok Tryz.mixed (by kernel_rfl) ?_
 obtain ⟨x1, hx1, h⟩ := bindS h
 refine ⟨_, rfl, _, ⟨_, rfl, rfl⟩, _, rfl, _, ⟨_, .of_pure (w_slices_Index_int_int hx1) (LeL.refl _), rfl⟩, _, ⟨_, rfl, rfl⟩, _, rfl, _, rfl, Q0, ?_⟩
 refine wE [(4, vb (decide (x1 > p_a2_0)))] Q1 ?_
 refine rt ?_
 cases h
 exact Fz.v
theorem w_slices_IndexFunc_int_int__scrub_next_1 {p_s} {p_f_c0} {p_f_c1} {r} (h : slices_IndexFunc_int_int__scrub_next_1 p_s p_f_c0 p_f_c1 = some r) : Pure Tryz.prog 67 [(.s (mI p_s)), (.c (.func 66) [] [(.p [(vi p_f_c0.Id), (vi p_f_c0.Ver), (.s (mI p_f_c0.Servers))]), (.p [(vi p_f_c1)])])] (vi r) := by
 refine po Tryz.tok 19 Tryz.func67 (by kernel_rfl) rfl rfl rfl ?_
 unfold slices_IndexFunc_int_int__scrub_next_1 at h
 refine wE [(0, .s (mI p_s)), (1, .c (.func 66) [] [.p [vi p_f_c0.Id, vi p_f_c0.Ver, .s (mI p_f_c0.Servers)], .p [vi p_f_c1]])] Q2 ?_
 refine sg ?_
 refine wE [(0, .s (mI p_s)), (1, .c (.func 66) [] [.p [vi p_f_c0.Id, vi p_f_c0.Ver, .s (mI p_f_c0.Servers)], .p [vi p_f_c1]])] Q2 ?_
 refine Ok.seqj (fun v1 => ⟨Cat.tab [], []⟩) (fun v1 => slices_IndexFunc_int_int__scrub_next_1_J1 v1 = some r) ?_ ?_
 ·refine sg ?_
  refine ⟨_, List.length_map _, fun _ => ?_⟩
  refine wE [(0, .s (mI p_s)), (1, .c (.func 66) [] [.p [vi p_f_c0.Id, vi p_f_c0.Ver, .s (mI p_f_c0.Servers)], .p [vi p_f_c1]]), (7, vi (p_s.length : Int)), (8, vi (0))] Q4 ?_
  refine bl ?_
  refine Ok.loop (fun (s1 : Int) => ⟨Cat.tab [(0, .s (mI p_s)), (1, .c (.func 66) [] [.p [vi p_f_c0.Id, vi p_f_c0.Ver, .s (mI p_f_c0.Servers)], .p [vi p_f_c1]]), (7, vi (p_s.length : Int)), (8, vi s1)], []⟩) (slices_IndexFunc_int_int__scrub_next_1_B1 p_s p_f_c0 p_f_c1) (s0 := 0) h (wt Q4 Q0 rfl) ?_
  intro s1 y1 hB1 hy1
  unfold slices_IndexFunc_int_int__scrub_next_1_B1 at hB1
  refine sg ?_
  refine wE [(0, .s (mI p_s)), (1, .c (.func 66) [] [.p [vi p_f_c0.Id, vi p_f_c0.Ver, .s (mI p_f_c0.Servers)], .p [vi p_f_c1]]), (7, vi (p_s.length : Int)), (8, vi s1), (9, vb (decide (s1 < (p_s.length : Int))))] Q5 ?_
  refine sq ?_
  refine cn 9 (decide (s1 < (p_s.length : Int))) rfl hB1 (fun hb hB1 => ?_) fun hb hB1 => ?_
  ·refine sk ?_
   refine sq ?_
   refine bl ?_
   refine sg ?_
   refine wE [(0, .s (mI p_s)), (1, .c (.func 66) [] [.p [vi p_f_c0.Id, vi p_f_c0.Ver, .s (mI p_f_c0.Servers)], .p [vi p_f_c1]]), (5, vi s1), (7, vi (p_s.length : Int)), (8, vi s1)] Q5 ?_
   refine sg ?_
   obtain ⟨x1, hx1, hB1⟩ := bindS hB1
   obtain ⟨x2, hx2, hB1⟩ := bindS hB1
   refine ⟨_, idx_nat hx1, _, idx_row hx1, _, rfl, ?_⟩
   refine CallOk.call (w_scrub_next_1 hx2) (LeL.refl _) ?_
   refine wE [(0, .s (mI p_s)), (1, .c (.func 66) [] [.p [vi p_f_c0.Id, vi p_f_c0.Ver, .s (mI p_f_c0.Servers)], .p [vi p_f_c1]]), (5, vi s1), (7, vi (p_s.length : Int)), (8, vi s1), (16, vb x2)] Q6 ?_
   refine cn 16 (x2) rfl hB1 (fun hb hB1 => ?_) fun hb hB1 => ?_
   ·refine sg ?_
    refine wE [(4, vi s1)] Q1 ?_
    refine rt ?_
    have hB1 := out_ret hB1 hy1
    cases hB1
    exact Fz.v
   refine sk ?_
   refine rg ?_
   obtain ⟨hc1, hB1⟩ := chk_some hB1
   refine (Or.inl ⟨hc1, ?_⟩)
   exact ⟨_, sj hB1, wt Q4 Q0 rfl⟩
  refine xt ?_
  have hB1 := out_ret hB1 hy1
  exact ⟨_, hB1, wt Q0 Q0 rfl⟩
 intro v1 h
 unfold slices_IndexFunc_int_int__scrub_next_1_J1 at h
 refine sg ?_
 refine wE [(4, vi (-1))] Q1 ?_
 refine rt ?_
 cases h
 exact Fz.v
theorem w_scrub_next {p_c} {p_own} {p_s} {r} (h : scrub_next p_c p_own p_s = some r) : Pure Tryz.prog 38 [(.a [(vi p_c.Id), (vi p_c.Ver), (.s (mI p_c.Servers))]), (.s (mI p_own)), (vi p_s)] (vi r) := by
 refine po Tryz.tok 30 Tryz.func38 (by kernel_rfl) rfl rfl rfl ?_
 unfold scrub_next at h
 refine wE [(0, .a [vi p_c.Id, vi p_c.Ver, .s (mI p_c.Servers)]), (1, .s (mI p_own)), (2, vi p_s)] Q3 ?_
 refine sg ?_
 refine wT [(1, .s (mI p_own)), (2, vi p_s), (3, .b 3 0)] [(3, .box [vi p_c.Id, vi p_c.Ver, .s (mI p_c.Servers)])] Q3 J1 rfl ?_
 refine sg ?_
 obtain ⟨x1, hx1, h⟩ := bindS h
 refine ⟨_, rfl, ?_⟩
 refine CallOk.call (w_slices_Index_int_int hx1) (LeL.refl _) ?_
 refine ⟨_, rfl, ?_⟩
 refine wT [(1, .s (mI p_own)), (3, .b 3 0), (7, .b 7 0)] [(3, .box [vi p_c.Id, vi p_c.Ver, .s (mI p_c.Servers)]), (7, .box [vi x1])] Q3 J2 rfl ?_
 refine sg ?_
 refine wT [(1, .s (mI p_own)), (8, .c (.func 66) [] [.b 3 0, .b 7 0])] [(3, .box [vi p_c.Id, vi p_c.Ver, .s (mI p_c.Servers)]), (7, .box [vi x1])] Q2 J2 rfl ?_
 refine sq ?_
 refine sg ?_
 obtain ⟨x2, hx2, h⟩ := bindS h
 refine CallOk.borrow (w_slices_IndexFunc_int_int__scrub_next_1 hx2) (.cons Fz.s (.cons (Fz.c .nil (.cons (Fz.b rfl rfl) (.cons (Fz.b rfl rfl) .nil))) (.nil))) rfl ?_
 refine wE [(1, .s (mI p_own)), (9, vi x2)] Q2 ?_
 refine sg ?_
 refine wE [(1, .s (mI p_own)), (9, vi x2), (19, vb (decide (x2 ≥ 0)))] Q3 ?_
 refine cn 19 (decide (x2 ≥ 0)) rfl h (fun hb h => ?_) fun hb h => ?_
 ·refine sg ?_
  obtain ⟨x3, hx3, h⟩ := bindS h
  refine ⟨_, idx_nat hx3, _, idx_row hx3, _, rfl, ?_⟩
  refine wE [(6, vi x3)] Q1 ?_
  refine rt ?_
  cases h
  exact Fz.v
 refine sk ?_
 refine sg ?_
 obtain ⟨hc1, h⟩ := chk_some h
 obtain ⟨x4, hx4, h⟩ := bindS h
 refine ⟨_, List.length_map _, fun _ => (Or.inl ⟨hc1, _, idx_nat hx4, _, idx_row hx4, _, rfl, ?_⟩)⟩
 refine wE [(6, vi x4)] Q1 ?_
 refine rt ?_
 cases h
 exact Fz.v
theorem w_scrub_Plan {p_disks} {p_l} {r} (h : scrub_Plan p_disks p_l = some r) : Pure Tryz.prog 12 [(.s (mB p_disks)), (.s (mC p_l))] (.t [(.s (mE r.1)), (.s (mI r.2))]) := by
 refine po Tryz.tok 84 Tryz.func12 (by kernel_rfl) rfl rfl rfl ?_
 unfold scrub_Plan at h
 refine wE [(0, .s (mB p_disks)), (1, .s (mC p_l))] Q2 ?_
 refine sg ?_
 refine wE [(0, .s (mB p_disks)), (1, .s (mC p_l))] Q2 ?_
 refine sg ?_
 refine wE [(0, .s (mB p_disks)), (1, .s (mC p_l)), (6, .v (.slice none 0 0))] Q3 ?_
 refine sg ?_
 refine wE [(0, .s (mB p_disks)), (1, .s (mC p_l)), (6, .v (.slice none 0 0)), (7, .v (.slice none 0 0))] Q4 ?_
 obtain ⟨v1, hv1, h⟩ := bindS h
 refine Ok.seqw ⟨Cat.tab [(6, .o 79), (7, .o 33)], [(79, .own 53 6 (mE v1.1)), (33, .own 3 1 (mI v1.2))]⟩ ?_ ?_
 ·refine sg ?_
  refine ⟨_, List.length_map _, fun _ => ?_⟩
  refine wE [(0, .s (mB p_disks)), (6, .v (.slice none 0 0)), (7, .v (.slice none 0 0)), (17, .s (mC p_l)), (18, vi (p_l.length : Int)), (19, vi (0))] Q6 ?_
  refine bl ?_
  refine Ok.loop (fun (s1 : Int × (List api_Job) × (List Int)) => ⟨Cat.tab [(0, .s (mB p_disks)), (6, .o 79), (7, .o 33), (17, .s (mC p_l)), (18, vi (p_l.length : Int)), (19, vi s1.1)], [(79, .own 53 6 (mE s1.2.1)), (33, .own 3 1 (mI s1.2.2))]⟩) (scrub_Plan_B1 p_l p_disks) (s0 := (0, [], [])) hv1 ((Wk.own0 (t := 6) (id := 79) (E := 53) (K := 6) rfl rfl).trans ((Wk.own0 (t := 7) (id := 33) (E := 3) (K := 1) rfl rfl).trans (wt Q6 ⟨⟨_, rfl, .refl _⟩, ⟨_, rfl, .refl _⟩, Q0⟩ rfl))) ?_
  intro s1 y1 hB1 hy1
  unfold scrub_Plan_B1 at hB1
  refine sg ?_
  refine wT [(0, .s (mB p_disks)), (6, .o 79), (7, .o 33), (17, .s (mC p_l)), (18, vi (p_l.length : Int)), (19, vi s1.1), (20, vb (decide (s1.1 < (p_l.length : Int))))] [(79, .own 53 6 (mE s1.2.1)), (33, .own 3 1 (mI s1.2.2))] Q7 J2 rfl ?_
  refine sq ?_
  refine cn 20 (decide (s1.1 < (p_l.length : Int))) rfl hB1 (fun hb hB1 => ?_) fun hb hB1 => ?_
  ·refine sk ?_
   obtain ⟨v2, hv2, hB1⟩ := bindS hB1
   refine Ok.seqw ⟨Cat.tab [(0, .s (mB p_disks)), (6, .o 79), (7, .o 33), (17, .s (mC p_l)), (18, vi (p_l.length : Int)), (19, vi s1.1)], [(79, .own 53 6 (mE v2.1)), (33, .own 3 1 (mI v2.2))]⟩ ?_ ?_
   ·refine bl ?_
    refine sg ?_
    obtain ⟨x1, hx1, hv2⟩ := bindS hv2
    refine ⟨_, idx_nat hx1, _, idx_row hx1, _, rfl, _, rfl, ?_⟩
    refine wT [(0, .s (mB p_disks)), (6, .o 79), (7, .o 33), (9, .b 9 0), (17, .s (mC p_l)), (18, vi (p_l.length : Int)), (19, vi s1.1)] [(79, .own 53 6 (mE s1.2.1)), (33, .own 3 1 (mI s1.2.2)), (9, .box [vi x1.Id, vi x1.Ver, .s (mI x1.Servers)])] Q7 J3 rfl ?_
    refine sg ?_
    obtain ⟨x2, hx2, hv2⟩ := bindS hv2
    refine ⟨_, rfl, ?_⟩
    refine CallOk.call (w_scrub_Intact hx2) (LeL.refl _) ?_
    refine wT [(0, .s (mB p_disks)), (6, .o 79), (7, .o 33), (9, .b 9 0), (10, .s (mI x2)), (17, .s (mC p_l)), (18, vi (p_l.length : Int)), (19, vi s1.1)] [(79, .own 53 6 (mE s1.2.1)), (33, .own 3 1 (mI s1.2.2)), (9, .box [vi x1.Id, vi x1.Ver, .s (mI x1.Servers)])] Q8 J3 rfl ?_
    refine sq ?_
    refine sg ?_
    refine ⟨_, List.length_map _, fun _ => ?_⟩
    refine wT [(0, .s (mB p_disks)), (6, .o 79), (7, .o 33), (9, .b 9 0), (10, .s (mI x2)), (17, .s (mC p_l)), (18, vi (p_l.length : Int)), (19, vi s1.1), (28, vb ((x2.length : Int) == 0))] [(79, .own 53 6 (mE s1.2.1)), (33, .own 3 1 (mI s1.2.2)), (9, .box [vi x1.Id, vi x1.Ver, .s (mI x1.Servers)])] ⟨lr, Q8⟩ J3 rfl ?_
    refine cn 28 ((x2.length : Int) == 0) rfl hv2 (fun hb hv2 => ?_) fun hb hv2 => ?_
    ·refine sg ?_
     obtain ⟨hc1, hv2⟩ := chk_some hv2
     refine ⟨_, rfl, Or.inl ⟨rowsLen_map (f := Go.Cat.encI) (n := 1) (fun _ => rfl) ([x1.Id]), app_b2 (f := Go.Cat.encI) (l := s1.2.2) (l' := [x1.Id]) hc1, _, (List.map_append (f := Go.Cat.encI) (l₁ := s1.2.2) (l₂ := [x1.Id])).symm, ?_⟩⟩
     refine wT [(0, .s (mB p_disks)), (6, .o 79), (7, .o 33), (17, .s (mC p_l)), (18, vi (p_l.length : Int)), (19, vi s1.1)] [(79, .own 53 6 (mE s1.2.1)), (33, .own 3 1 (mI (s1.2.2 ++ [x1.Id])))] Q6 J2 rfl ?_
     refine xt ?_
     cases hv2
     exact wt Q6 J2 rfl
    refine sk ?_
    refine sg ?_
    obtain ⟨x3, hx3, hv2⟩ := bindS hv2
    refine ⟨_, rfl, ?_⟩
    refine CallOk.own (D := 36) (wo_scrub_Look hx3) (LeL.refl _) rfl ?_
    refine wT [(0, .s (mB p_disks)), (6, .o 79), (7, .o 33), (9, .b 9 0), (10, .s (mI x2)), (11, .o 36), (17, .s (mC p_l)), (18, vi (p_l.length : Int)), (19, vi s1.1)] [(79, .own 53 6 (mE s1.2.1)), (33, .own 3 1 (mI s1.2.2)), (9, .box [vi x1.Id, vi x1.Ver, .s (mI x1.Servers)]), (36, .own 50 3 (mD x3))] ⟨lr, Q8⟩ J4 rfl ?_
    refine sg ?_
    obtain ⟨x4, hx4, hv2⟩ := bindS hv2
    refine CallOk.chgLe (id := 36) (pchg_sortF (E := 50) (enc := c_api_Find) Tryz.says35 Tryz.enters35 (fun _ => rfl) (fun _ => rfl) (fun _ _ _ h => w_scrub_Plan_1 (M := Mono.yes) h) (enters_of Tryz.func36 (by kernel_rfl) rfl) hx4) rfl (.refl _) rfl (.cons Lr.o (.cons (Lr.imm rfl) .nil)) ?_
    rintro _ _ ⟨rfl, rfl⟩
    refine wT [(0, .s (mB p_disks)), (6, .o 79), (7, .o 33), (9, .b 9 0), (10, .s (mI x2)), (11, .o 36), (17, .s (mC p_l)), (18, vi (p_l.length : Int)), (19, vi s1.1)] [(79, .own 53 6 (mE s1.2.1)), (33, .own 3 1 (mI s1.2.2)), (9, .box [vi x1.Id, vi x1.Ver, .s (mI x1.Servers)]), (36, .own 50 3 (mD x4))] ⟨lr, Q8⟩ J4 rfl ?_
    refine sg ?_
    refine ⟨_, List.length_map _, fun _ => ?_⟩
    refine wT [(0, .s (mB p_disks)), (6, .o 79), (7, .o 33), (9, .b 9 0), (10, .s (mI x2)), (17, .s (mC p_l)), (18, vi (p_l.length : Int)), (19, vi s1.1), (39, .o 36), (40, vi (x4.length : Int)), (41, vi (0))] [(79, .own 53 6 (mE s1.2.1)), (33, .own 3 1 (mI s1.2.2)), (9, .box [vi x1.Id, vi x1.Ver, .s (mI x1.Servers)]), (36, .own 50 3 (mD x4))] ⟨lr, lr, lr, Q8⟩ J4 rfl ?_
    refine bl ?_
    refine Ok.loop (fun (s2 : Int × (List api_Job)) => ⟨Cat.tab [(0, .s (mB p_disks)), (6, .o 79), (7, .o 33), (9, .b 9 0), (10, .s (mI x2)), (17, .s (mC p_l)), (18, vi (p_l.length : Int)), (19, vi s1.1), (39, .o 36), (40, vi (x4.length : Int)), (41, vi s2.1)], [(79, .own 53 6 (mE s2.2)), (33, .own 3 1 (mI s1.2.2)), (9, .box [vi x1.Id, vi x1.Ver, .s (mI x1.Servers)]), (36, .own 50 3 (mD x4))]⟩) (scrub_Plan_B2 x4 x1 x2 p_disks s1) (s0 := (0, s1.2.1)) hv2 (wt ⟨lr, lr, lr, Q8⟩ ⟨⟨_, rfl, .refl _⟩, ⟨_, rfl, .refl _⟩, ⟨_, rfl, .refl _⟩, ⟨_, rfl, .refl _⟩, Q0⟩ rfl) ?_
    intro s2 y2 hB2 hy2
    unfold scrub_Plan_B2 at hB2
    refine sg ?_
    refine wT [(0, .s (mB p_disks)), (6, .o 79), (7, .o 33), (9, .b 9 0), (10, .s (mI x2)), (17, .s (mC p_l)), (18, vi (p_l.length : Int)), (19, vi s1.1), (39, .o 36), (40, vi (x4.length : Int)), (41, vi s2.1), (42, vb (decide (s2.1 < (x4.length : Int))))] [(79, .own 53 6 (mE s2.2)), (33, .own 3 1 (mI s1.2.2)), (9, .box [vi x1.Id, vi x1.Ver, .s (mI x1.Servers)]), (36, .own 50 3 (mD x4))] ⟨lr, lr, lr, lr, Q8⟩ J4 rfl ?_
    refine sq ?_
    refine cn 42 (decide (s2.1 < (x4.length : Int))) rfl hB2 (fun hb hB2 => ?_) fun hb hB2 => ?_
    ·refine sk ?_
     obtain ⟨v3, hv3, hB2⟩ := bindS hB2
     refine Ok.seqw ⟨Cat.tab [(0, .s (mB p_disks)), (6, .o 79), (7, .o 33), (9, .b 9 0), (10, .s (mI x2)), (17, .s (mC p_l)), (18, vi (p_l.length : Int)), (19, vi s1.1), (39, .o 36), (40, vi (x4.length : Int)), (41, vi s2.1)], [(79, .own 53 6 (mE v3)), (33, .own 3 1 (mI s1.2.2)), (9, .box [vi x1.Id, vi x1.Ver, .s (mI x1.Servers)]), (36, .own 50 3 (mD x4))]⟩ ?_ ?_
     ·refine bl ?_
      refine sg ?_
      obtain ⟨x5, hx5, hv3⟩ := bindS hv3
      refine ⟨_, idx_nat hx5, idx_ltm hx5, _, idx_row hx5, rfl, _, rfl, _, rfl, ?_⟩
      refine wT [(0, .s (mB p_disks)), (6, .o 79), (7, .o 33), (9, .b 9 0), (10, .s (mI x2)), (13, .b 13 0), (17, .s (mC p_l)), (18, vi (p_l.length : Int)), (19, vi s1.1), (39, .o 36), (40, vi (x4.length : Int)), (41, vi s2.1)] [(79, .own 53 6 (mE s2.2)), (33, .own 3 1 (mI s1.2.2)), (9, .box [vi x1.Id, vi x1.Ver, .s (mI x1.Servers)]), (13, .box [vi x5.Id, vi x5.Server, vi x5.What]), (36, .own 50 3 (mD x4))] ⟨lr, lr, lr, lr, Q8⟩ ⟨hr, J4⟩ rfl ?_
      refine sg ?_
      refine ⟨_, rfl, ?_⟩
      refine wT [(0, .s (mB p_disks)), (6, .o 79), (7, .o 33), (9, .b 9 0), (10, .s (mI x2)), (13, .b 13 0), (17, .s (mC p_l)), (18, vi (p_l.length : Int)), (19, vi s1.1), (39, .o 36), (40, vi (x4.length : Int)), (41, vi s2.1), (47, vb (x5.What != 1))] [(79, .own 53 6 (mE s2.2)), (33, .own 3 1 (mI s1.2.2)), (9, .box [vi x1.Id, vi x1.Ver, .s (mI x1.Servers)]), (13, .box [vi x5.Id, vi x5.Server, vi x5.What]), (36, .own 50 3 (mD x4))] ⟨lr, lr, lr, lr, lr, Q8⟩ ⟨hr, J4⟩ rfl ?_
      refine cn 47 (x5.What != 1) rfl hv3 (fun hb hv3 => ?_) fun hb hv3 => ?_
      ·refine sg ?_
       obtain ⟨x6, hx6, hv3⟩ := bindS hv3
       refine ⟨_, rfl, _, rfl, ?_⟩
       refine CallOk.call (w_scrub_next hx6) (LeL.refl _) ?_
       refine wT [(0, .s (mB p_disks)), (6, .o 79), (7, .o 33), (9, .b 9 0), (10, .s (mI x2)), (13, .b 13 0), (14, vi x6), (17, .s (mC p_l)), (18, vi (p_l.length : Int)), (19, vi s1.1), (39, .o 36), (40, vi (x4.length : Int)), (41, vi s2.1)] [(79, .own 53 6 (mE s2.2)), (33, .own 3 1 (mI s1.2.2)), (9, .box [vi x1.Id, vi x1.Ver, .s (mI x1.Servers)]), (13, .box [vi x5.Id, vi x5.Server, vi x5.What]), (36, .own 50 3 (mD x4))] ⟨lr, lr, lr, lr, lr, Q8⟩ ⟨hr, J4⟩ rfl ?_
       refine sq ?_
       refine Ok.draw2 (m := 11) (late := [9]) (MD := ⟨[]⟩) (CH := ⟨[]⟩) Tryz.tok Tryz.mixed (by kernel_rfl) ?_
       obtain ⟨x7, hx7, hv3⟩ := bindS hv3
       obtain ⟨x8, hx8, hv3⟩ := bindS hv3
       refine ⟨_, rfl, _, rfl, _, ⟨_, idx_nat hx7, _, idx_row hx7, rfl⟩, _, ⟨_, rfl, rfl⟩, _, rfl, _, ⟨_, rfl, rfl⟩, _, ⟨_, .of_pure (w_chunk_Get hx8) (LeL.refl _), rfl⟩, _, rfl, _, rfl, _, rfl, Q0, ?_⟩
       refine ⟨_, rfl, ⟨⟨_, rfl, rfl⟩, Q0⟩, ?_⟩
       refine wT [(0, .s (mB p_disks)), (6, .o 79), (7, .o 33), (9, .b 9 0), (10, .s (mI x2)), (13, .b 13 0), (14, vi x6), (15, .b 15 0), (17, .s (mC p_l)), (18, vi (p_l.length : Int)), (19, vi s1.1), (39, .o 36), (40, vi (x4.length : Int)), (41, vi s2.1)] [(79, .own 53 6 (mE s2.2)), (33, .own 3 1 (mI s1.2.2)), (9, .box [vi x1.Id, vi x1.Ver, .s (mI x1.Servers)]), (13, .box [vi x5.Id, vi x5.Server, vi x5.What]), (15, .box [vi x8.1.Id, vi x8.1.Ver, .s (mA x8.1.Data), .s (mI x8.1.Sums)]), (36, .own 50 3 (mD x4))] ⟨lr, lr, lr, lr, lr, lr, Q8⟩ ⟨hr, hr, J4⟩ rfl ?_
       refine rg ?_
       obtain ⟨hc2, hv3⟩ := chk_some hv3
       obtain ⟨hc3, hv3⟩ := chk_some hv3
       refine ⟨_, rfl, _, rfl, _, rfl, _, List.length_map _, fun _ => ⟨_, rfl, _, List.length_map _, fun _ => (Or.inl ⟨hc2, Or.inl ⟨rowsLen_map (f := c_api_Job) (n := 6) (fun _ => rfl) ([(⟨x1.Id, x1.Ver, x6, x5.Server, (x2.length : Int), ((x8.1.Data.length : Int) + 1)⟩ : api_Job)]), app_b2 (f := c_api_Job) (l := s2.2) (l' := [(⟨x1.Id, x1.Ver, x6, x5.Server, (x2.length : Int), ((x8.1.Data.length : Int) + 1)⟩ : api_Job)]) hc3, _, (List.map_append (f := c_api_Job) (l₁ := s2.2) (l₂ := [(⟨x1.Id, x1.Ver, x6, x5.Server, (x2.length : Int), ((x8.1.Data.length : Int) + 1)⟩ : api_Job)])).symm, ?_⟩⟩)⟩⟩
       cases hv3
       exact wt ⟨lr, lr, lr, Q8⟩ J4 rfl
      refine sk ?_
      cases hv3
      exact wt ⟨lr, lr, lr, Q8⟩ J4 rfl
     refine rg ?_
     obtain ⟨hc4, hB2⟩ := chk_some hB2
     refine (Or.inl ⟨hc4, ?_⟩)
     exact ⟨_, sj hB2, wt ⟨lr, lr, lr, Q8⟩ J4 rfl⟩
    refine xt ?_
    have hB2 := out_ret hB2 hy2
    cases hB2
    exact wt Q6 J2 rfl
   refine rg ?_
   obtain ⟨hc5, hB1⟩ := chk_some hB1
   refine (Or.inl ⟨hc5, ?_⟩)
   exact ⟨_, sj hB1, wt Q6 J2 rfl⟩
  refine xt ?_
  have hB1 := out_ret hB1 hy1
  cases hB1
  exact wt Q2 J2 rfl
 refine sg ?_
 refine wT [(4, .o 79), (5, .o 33)] [(79, .own 53 6 (mE v1.1)), (33, .own 3 1 (mI v1.2))] Q2 J2 rfl ?_
 refine rt ?_
 cases h
 exact (Fz.t (.cons (Fz.o rfl) (.cons (Fz.o rfl) .nil)))
theorem w_scrub_there {p_disks} {p_s} {r} (h : scrub_there p_disks p_s = some r) : Pure Tryz.prog 41 [(.s (mB p_disks)), (vi p_s)] (vb r) := by
 refine po Tryz.tok 13 Tryz.func41 (by kernel_rfl) rfl rfl rfl ?_
 unfold scrub_there at h
 refine wE [(0, .s (mB p_disks)), (1, vi p_s)] Q2 ?_
 refine sg ?_
 refine wE [(0, .s (mB p_disks)), (1, vi p_s)] Q2 ?_
 obtain ⟨v1, hv1, h⟩ := bindS h
 refine Ok.seqw ⟨Cat.tab [(4, vb v1)], []⟩ ?_ ?_
 ·refine rg ?_
  obtain ⟨c1, hg1, hv1⟩ := bindS hv1
  refine Br.ite hg1 (fun hb hg1 => ?_) fun hb hg1 => ?_
  ·refine ⟨_, List.length_map _, fun _ => ?_⟩
   cases hg1
   cases hv1
   exact wt Q1 Q0 rfl
  cases hg1
  cases hv1
  exact wt Q1 Q0 rfl
 refine rt ?_
 cases h
 exact Fz.v
theorem wo_slices_Clone_api_Disk_api_Disk {p_s} {r} (h : slices_Clone_api_Disk_api_Disk p_s = some r) : POwn Tryz.prog 72 [(.s (mB p_s))] 34 3 (mB r) := by
 refine pw Tryz.tok 8 Tryz.func72 (by kernel_rfl) rfl rfl rfl ?_
 unfold slices_Clone_api_Disk_api_Disk at h
 refine wE [(0, .s (mB p_s))] Q1 ?_
 refine sg ?_
 refine wE [(0, .s (mB p_s))] Q1 ?_
 refine sq ?_
 refine sg ?_
 intro b1 hb1
 have h := anyOf_some h b1 (fun e => List.map_eq_nil_iff.1 (hb1 e))
 refine wE [(0, .s (mB p_s)), (4, vb b1)] Q2 ?_
 refine cn 4 (b1) rfl h (fun hb h => ?_) fun hb h => ?_
 ·refine sg ?_
  refine wE [(2, .v (.slice none 0 0))] Q1 ?_
  refine rt ?_
  cases h
  exact (.inl ⟨rfl, rfl⟩)
 refine sk ?_
 refine sg ?_
 obtain ⟨hc1, h⟩ := chk_some h
 refine Or.inr ⟨rowsLen_map (f := c_api_Disk) (n := 3) (fun _ => rfl) p_s, app_b2 (f := c_api_Disk) (l := ([] : List api_Disk)) (l' := p_s) hc1, _, (List.map_append (f := c_api_Disk) (l₁ := ([] : List api_Disk)) (l₂ := p_s)).symm, ?_⟩
 refine wT [(2, .o 5)] [(5, .own 34 3 (mB (([] : List api_Disk) ++ p_s)))] Q1 J1 rfl ?_
 refine rt ?_
 cases h
 exact (.inr ⟨_, rfl, rfl⟩)
theorem wg_scrub_Copy_1_3 {p_d} {p_b0} {r} (h : scrub_Copy_1_3 p_d p_b0 = some r) : CallOk Tryz.prog 43 [(.a [(.s (mU p_d.Synced)), (.s (mU p_d.Loose)), (vb p_d.Down)]), (.b 1000 0)] ⟨noSlots, [(1000, .box [(vi p_b0.Id), (vi p_b0.Ver), (.s (mA p_b0.Data)), (.s (mI p_b0.Sums))])]⟩ fun x s => x = (.t [(.a [(.s (mU r.1)), (.s (mU r.2.1)), (vb r.2.2.1)]), (vi r.2.2.2)]) ∧ s.H = [(1000, .box [(vi p_b0.Id), (vi p_b0.Ver), (.s (mA p_b0.Data)), (.s (mI p_b0.Sums))])] := by
 refine pgen_of_ok (n := 10) (c := Tryz.f43.body.getD .skip) Tryz.tok Tryz.func43 (by kernel_rfl) rfl rfl (Nat.le_of_ble_eq_true rfl) ?_
 unfold scrub_Copy_1_3 at h
 refine wT [(0, .a [.s (mU p_d.Synced), .s (mU p_d.Loose), vb p_d.Down]), (1, .b 1000 0)] [(1000, .box [vi p_b0.Id, vi p_b0.Ver, .s (mA p_b0.Data), .s (mI p_b0.Sums)])] Q2 J1 rfl ?_
 refine sg ?_
 refine wT [(1, .b 1000 0), (2, .b 2 0), (3, .b 3 0)] [(1000, .box [vi p_b0.Id, vi p_b0.Ver, .s (mA p_b0.Data), .s (mI p_b0.Sums)]), (2, .box [.s (mU p_d.Synced), .s (mU p_d.Loose), vb p_d.Down]), (3, .box [.v (.slice none 0 0), .v (.slice none 0 0), vb false])] Q3 J3 rfl ?_
 refine sg ?_
 obtain ⟨x1, hx1, h⟩ := bindS h
 refine ⟨_, rfl, _, rfl, ?_⟩
 refine CallOk.call (w_chunk_Put hx1) (LeL.refl _) ?_
 refine ⟨_, rfl, ?_⟩
 refine wT [(3, .b 3 0), (4, vi x1.2)] [(3, .box [.s (mU x1.1.Synced), .s (mU x1.1.Loose), vb x1.1.Down]), (1000, .box [vi p_b0.Id, vi p_b0.Ver, .s (mA p_b0.Data), .s (mI p_b0.Sums)])] Q2 J2 rfl ?_
 refine rt ?_
 cases h
 exact ⟨_, rfl, wt Q1 J1 rfl⟩
end Go.Proofs
