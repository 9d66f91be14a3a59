/- The walks of this seat beside the plain programs, part 0. No condition. -/
import Derived.Test.YtopkpflbhhhdfaaGreatXSweepKeepsEn
namespace Go.Proofs
set_option linter.all false
open Go Go.Cat
variable [M : Mono]
set_option maxRecDepth 100000

theorem w_disk_New {r : api_Disk} (h : disk_New = some r) : Pure Tryz.prog 42 [] (.a [(.s (List.map c_api_Page r.Synced)), (.s (List.map c_api_Page r.Loose)), (vb r.Down)]) := by
  refine pure_of_ok (n := 2) (c := (Tryz.f42.body.getD .skip)) Tryz.tok Tryz.func42 (by kernel_rfl) rfl rfl (Nat.le_of_ble_eq_true rfl) ?_
  unfold disk_New at h
  refine Ok.wk (Wk.tab (L := []) (H' := []) True.intro True.intro rfl) ?_
  refine Ok.seq ?_
  refine Ok.region Tryz.tok ?_
  refine Ok.wk (Wk.tab (L := [(0, (.b 0 0))]) (H' := [(0, .box [(.v (.slice none 0 0)), (.v (.slice none 0 0)), (vb false)])]) ⟨Le.refl _, True.intro⟩ ⟨⟨_, rfl, .refl _⟩, True.intro⟩ rfl) ?_
  refine Ok.seq ?_
  refine Ok.region Tryz.tok ?_
  refine ⟨_, rfl, ?_⟩
  refine Ok.wk (Wk.tab (L := [(0, (.b 0 0))]) (H' := [(0, .box [(.v (.slice none 0 0)), (.v (.slice none 0 0)), (vb false)])]) ⟨Le.refl _, True.intro⟩ ⟨⟨_, rfl, .refl _⟩, True.intro⟩ rfl) ?_
  refine Ok.ret ?_
  cases h
  exact ⟨_, rfl, (Fz.a (.cons Fz.nil (.cons Fz.nil (.cons Fz.v .nil))))⟩

theorem wo_slices_Clone_byte_byte {p_s : List UInt8} {r : (List UInt8)} (h : slices_Clone_byte_byte p_s = some r) : POwn Tryz.prog 73 [(.s (List.map cU8 p_s))] 5 1 (List.map cU8 r) := by
  refine pown_of_ok (n := 8) (c := (Tryz.f73.body.getD .skip)) Tryz.tok Tryz.func73 (by kernel_rfl) rfl rfl (Nat.le_of_ble_eq_true rfl) ?_
  unfold slices_Clone_byte_byte at h
  refine Ok.wk (Wk.tab (L := [(0, (.s (List.map cU8 p_s)))]) (H' := []) ⟨Le.refl _, True.intro⟩ True.intro rfl) ?_
  refine Ok.seq ?_
  refine Ok.region Tryz.tok ?_
  refine Ok.wk (Wk.tab (L := [(0, (.s (List.map cU8 p_s)))]) (H' := []) ⟨Le.refl _, True.intro⟩ True.intro rfl) ?_
  refine Ok.seq ?_
  refine Ok.seq ?_
  refine Ok.region Tryz.tok ?_
  intro b1 hb1
  have h := anyOf_some h b1 (fun e => List.map_eq_nil_iff.1 (hb1 e))
  refine Ok.wk (Wk.tab (L := [(0, (.s (List.map cU8 p_s))), (4, (vb b1))]) (H' := []) ⟨Le.refl _, Le.refl _, True.intro⟩ True.intro rfl) ?_
  refine Ok.cond (d := 4) (b := b1) rfl h (fun hb h => ?_) fun hb h => ?_
  · refine Ok.seq ?_
    refine Ok.region Tryz.tok ?_
    refine Ok.wk (Wk.tab (L := [(2, (.v (.slice none 0 0)))]) (H' := []) ⟨Le.refl _, True.intro⟩ True.intro rfl) ?_
    refine Ok.ret ?_
    cases h
    exact (.inl ⟨rfl, rfl⟩)
  · refine Ok.skip ?_
    refine Ok.seq ?_
    refine Ok.region Tryz.tok ?_
    obtain ⟨hc1, h⟩ := chk_some h
    refine Or.inr ⟨rowsLen_map (f := cU8) (n := 1) (fun _ => rfl) p_s, app_b2 (f := cU8) (l := (([] : List UInt8))) (l' := p_s) hc1, _, (List.map_append (f := cU8) (l₁ := (([] : List UInt8))) (l₂ := p_s)).symm, ?_⟩
    refine Ok.wk (Wk.tab (L := [(2, (.o 5))]) (H' := [(5, .own 5 1 (List.map cU8 ((([] : List UInt8) ++ p_s))))]) ⟨Le.refl _, True.intro⟩ ⟨⟨_, rfl, .refl _⟩, True.intro⟩ rfl) ?_
    refine Ok.ret ?_
    cases h
    exact (.inr ⟨_, rfl, rfl⟩)
theorem w_slices_Clone_byte_byte {p_s : List UInt8} {r : (List UInt8)} (h : slices_Clone_byte_byte p_s = some r) : Pure Tryz.prog 73 [(.s (List.map cU8 p_s))] (.s (List.map cU8 r)) := (wo_slices_Clone_byte_byte h).pure

theorem w_sum_half_1 {p_c : Int} {r : Int} (h : sum_half_1 p_c = some r) : Pure Tryz.prog 115 [(.v (.int .u32 p_c))] (.v (.int .u32 r)) := by
  refine pure_of_ok (n := 11) (c := (Tryz.f115.body.getD .skip)) Tryz.tok Tryz.func115 (by kernel_rfl) rfl rfl (Nat.le_of_ble_eq_true rfl) ?_
  unfold sum_half_1 at h
  refine Ok.wk (Wk.tab (L := [(0, (.v (.int .u32 p_c)))]) (H' := []) ⟨Le.refl _, True.intro⟩ True.intro rfl) ?_
  refine Ok.seq ?_
  refine Ok.region Tryz.tok ?_
  refine Ok.wk (Wk.tab (L := [(0, (.v (.int .u32 p_c)))]) (H' := []) ⟨Le.refl _, True.intro⟩ True.intro rfl) ?_
  refine Ok.seq ?_
  refine Ok.seq ?_
  refine Ok.region Tryz.tok ?_
  refine ⟨_, rfl, ?_⟩
  refine Ok.wk (Wk.tab (L := [(0, (.v (.int .u32 p_c))), (5, (vb (((andK .u32 p_c (1)) == 1))))]) (H' := []) ⟨Le.refl _, Le.refl _, True.intro⟩ True.intro rfl) ?_
  refine Ok.cond (d := 5) (b := ((andK .u32 p_c (1)) == 1)) rfl h (fun hb h => ?_) fun hb h => ?_
  · refine Ok.seq ?_
    refine Ok.region Tryz.tok ?_
    refine ⟨(by decide), _, rfl, ⟨_, rfl, ?_⟩⟩
    refine Ok.wk (Wk.tab (L := [(2, (.v (.int .u32 ((xorK .u32 ((shrK .u32 p_c (1))) (2197175160))))))]) (H' := []) ⟨Le.refl _, True.intro⟩ True.intro rfl) ?_
    refine Ok.ret ?_
    cases h
    exact Fz.v
  · refine Ok.skip ?_
    refine Ok.seq ?_
    refine Ok.region Tryz.tok ?_
    refine ⟨(by decide), _, rfl, ?_⟩
    refine Ok.wk (Wk.tab (L := [(2, (.v (.int .u32 ((shrK .u32 p_c (1))))))]) (H' := []) ⟨Le.refl _, True.intro⟩ True.intro rfl) ?_
    refine Ok.ret ?_
    cases h
    exact Fz.v

theorem w_sum_half {r : (List Int)} (h : sum_half = some r) : Pure Tryz.prog 97 [] (.a (List.map a_u32 r)) := by
  refine pure_of_ok (n := 21) (c := (Tryz.f97.body.getD .skip)) Tryz.tok Tryz.func97 (by kernel_rfl) rfl rfl (Nat.le_of_ble_eq_true rfl) ?_
  unfold sum_half at h
  refine Ok.wk (Wk.tab (L := []) (H' := []) True.intro True.intro rfl) ?_
  refine Ok.seq ?_
  refine Ok.region Tryz.tok ?_
  refine Ok.wk (Wk.tab (L := [(0, (.b 0 0))]) (H' := [(0, .box (List.map a_u32 ((List.replicate 16 0))))]) ⟨Le.refl _, True.intro⟩ ⟨⟨_, rfl, .refl _⟩, True.intro⟩ rfl) ?_
  refine Ok.seq ?_
  refine Ok.region Tryz.tok ?_
  refine Ok.wk (Wk.tab (L := [(0, (.b 0 0)), (1, (.b 1 0))]) (H' := [(0, .box (List.map a_u32 ((List.replicate 16 0)))), (1, .box (List.map a_u32 ((List.replicate 16 0))))]) ⟨Le.refl _, Le.refl _, True.intro⟩ ⟨⟨_, rfl, .arr1 (fun _ _ => rfl)⟩, ⟨_, rfl, .refl _⟩, True.intro⟩ rfl) ?_
  refine Ok.seq ?_
  refine Ok.region Tryz.tok ?_
  refine Ok.wk (Wk.tab (L := [(0, (.b 0 0)), (1, (.b 1 0)), (2, (.c (.func 115) [] []))]) (H' := [(0, .box (List.map a_u32 ((List.replicate 16 0)))), (1, .box (List.map a_u32 ((List.replicate 16 0))))]) ⟨Le.refl _, Le.refl _, Le.refl _, True.intro⟩ ⟨⟨_, rfl, .refl _⟩, ⟨_, rfl, .refl _⟩, True.intro⟩ rfl) ?_
  obtain ⟨v1, hv1, h⟩ := bindS h
  refine Ok.seqw ⟨Cat.tab [(0, (.b 0 0)), (1, (.b 1 0))], [(0, .box (List.map a_u32 ((List.replicate 16 0)))), (1, .box (List.map a_u32 v1))]⟩ ?_ ?_
  · refine Ok.seq ?_
    refine Ok.region Tryz.tok ?_
    refine Ok.wk (Wk.tab (L := [(0, (.b 0 0)), (1, (.b 1 0)), (2, (.c (.func 115) [] [])), (5, (vi (0)))]) (H' := [(0, .box (List.map a_u32 ((List.replicate 16 0)))), (1, .box (List.map a_u32 ((List.replicate 16 0))))]) ⟨Le.refl _, Le.refl _, Le.refl _, Le.refl _, True.intro⟩ ⟨⟨_, rfl, .refl _⟩, ⟨_, rfl, .refl _⟩, True.intro⟩ rfl) ?_
    refine Ok.block ?_
    refine Ok.loop (fun (s1 : Int × (List Int)) => ⟨Cat.tab [(0, (.b 0 0)), (1, (.b 1 0)), (2, (.c (.func 115) [] [])), (5, (vi s1.1))], [(0, .box (List.map a_u32 ((List.replicate 16 0)))), (1, .box (List.map a_u32 s1.2))]⟩) (sum_half_B1) (s0 := (0, (List.replicate 16 0))) hv1 (Wk.tab ⟨Le.refl _, Le.refl _, Le.refl _, Le.refl _, True.intro⟩ ⟨⟨_, rfl, .refl _⟩, ⟨_, rfl, .refl _⟩, True.intro⟩ rfl) ?_
    intro s1 y1 hB1 hy1
    unfold sum_half_B1 at hB1
    refine Ok.seq ?_
    refine Ok.region Tryz.tok ?_
    refine Ok.wk (Wk.tab (L := [(0, (.b 0 0)), (1, (.b 1 0)), (2, (.c (.func 115) [] [])), (5, (vi s1.1)), (6, (vb ((decide (s1.1 < 16)))))]) (H' := [(0, .box (List.map a_u32 ((List.replicate 16 0)))), (1, .box (List.map a_u32 s1.2))]) ⟨Le.refl _, Le.refl _, Le.refl _, Le.refl _, Le.refl _, True.intro⟩ ⟨⟨_, rfl, .refl _⟩, ⟨_, rfl, .refl _⟩, True.intro⟩ rfl) ?_
    refine Ok.seq ?_
    refine Ok.cond (d := 6) (b := (decide (s1.1 < 16))) rfl hB1 (fun hb hB1 => ?_) fun hb hB1 => ?_
    · refine Ok.skip ?_
      obtain ⟨v2, hv2, hB1⟩ := bindS hB1
      refine Ok.seqw ⟨Cat.tab [(0, (.b 0 0)), (1, (.b 1 0)), (2, (.c (.func 115) [] [])), (5, (vi s1.1))], [(0, .box (List.map a_u32 ((List.replicate 16 0)))), (1, .box (List.map a_u32 v2))]⟩ ?_ ?_
      · refine Ok.block ?_
        refine Ok.seq ?_
        refine Ok.region Tryz.tok ?_
        refine Ok.wk (Wk.tab (L := [(0, (.b 0 0)), (1, (.b 1 0)), (2, (.c (.func 115) [] [])), (3, (vi s1.1)), (5, (vi s1.1))]) (H' := [(0, .box (List.map a_u32 ((List.replicate 16 0)))), (1, .box (List.map a_u32 s1.2))]) ⟨Le.refl _, Le.refl _, Le.refl _, Le.refl _, Le.refl _, True.intro⟩ ⟨⟨_, rfl, .refl _⟩, ⟨_, rfl, .refl _⟩, True.intro⟩ rfl) ?_
        refine Ok.seq ?_
        refine Ok.region Tryz.tok ?_
        refine ⟨_, rfl, ?_⟩
        refine Ok.wk (Wk.tab (L := [(0, (.b 0 0)), (1, (.b 1 0)), (2, (.c (.func 115) [] [])), (3, (vi s1.1)), (4, (.v (.int .u32 ((IntKind.u32.wrap s1.1))))), (5, (vi s1.1))]) (H' := [(0, .box (List.map a_u32 ((List.replicate 16 0)))), (1, .box (List.map a_u32 s1.2))]) ⟨Le.refl _, Le.refl _, Le.refl _, Le.refl _, Le.refl _, Le.refl _, True.intro⟩ ⟨⟨_, rfl, .refl _⟩, ⟨_, rfl, .refl _⟩, True.intro⟩ rfl) ?_
        obtain ⟨v3, hv3, hv2⟩ := bindS hv2
        refine Ok.seqw ⟨Cat.tab [(0, (.b 0 0)), (1, (.b 1 0)), (2, (.c (.func 115) [] [])), (3, (vi s1.1)), (4, (.v (.int .u32 v3))), (5, (vi s1.1))], [(0, .box (List.map a_u32 ((List.replicate 16 0)))), (1, .box (List.map a_u32 s1.2))]⟩ ?_ ?_
        · refine Ok.seq ?_
          refine Ok.region Tryz.tok ?_
          refine Ok.wk (Wk.tab (L := [(0, (.b 0 0)), (1, (.b 1 0)), (2, (.c (.func 115) [] [])), (3, (vi s1.1)), (4, (.v (.int .u32 ((IntKind.u32.wrap s1.1))))), (5, (vi s1.1)), (10, (vi (0)))]) (H' := [(0, .box (List.map a_u32 ((List.replicate 16 0)))), (1, .box (List.map a_u32 s1.2))]) ⟨Le.refl _, Le.refl _, Le.refl _, Le.refl _, Le.refl _, Le.refl _, Le.refl _, True.intro⟩ ⟨⟨_, rfl, .refl _⟩, ⟨_, rfl, .refl _⟩, True.intro⟩ rfl) ?_
          refine Ok.block ?_
          refine Ok.loop (fun (s2 : Int × Int) => ⟨Cat.tab [(0, (.b 0 0)), (1, (.b 1 0)), (2, (.c (.func 115) [] [])), (3, (vi s1.1)), (4, (.v (.int .u32 s2.1))), (5, (vi s1.1)), (10, (vi s2.2))], [(0, .box (List.map a_u32 ((List.replicate 16 0)))), (1, .box (List.map a_u32 s1.2))]⟩) (sum_half_B2) (s0 := ((IntKind.u32.wrap s1.1), 0)) hv3 (Wk.tab ⟨Le.refl _, Le.refl _, Le.refl _, Le.refl _, Le.refl _, Le.refl _, Le.refl _, True.intro⟩ ⟨⟨_, rfl, .refl _⟩, ⟨_, rfl, .refl _⟩, True.intro⟩ rfl) ?_
          intro s2 y2 hB2 hy2
          unfold sum_half_B2 at hB2
          refine Ok.seq ?_
          refine Ok.region Tryz.tok ?_
          refine Ok.wk (Wk.tab (L := [(0, (.b 0 0)), (1, (.b 1 0)), (2, (.c (.func 115) [] [])), (3, (vi s1.1)), (4, (.v (.int .u32 s2.1))), (5, (vi s1.1)), (10, (vi s2.2)), (11, (vb ((decide (s2.2 < 4)))))]) (H' := [(0, .box (List.map a_u32 ((List.replicate 16 0)))), (1, .box (List.map a_u32 s1.2))]) ⟨Le.refl _, Le.refl _, Le.refl _, Le.refl _, Le.refl _, Le.refl _, Le.refl _, Le.refl _, True.intro⟩ ⟨⟨_, rfl, .refl _⟩, ⟨_, rfl, .refl _⟩, True.intro⟩ rfl) ?_
          refine Ok.seq ?_
          refine Ok.cond (d := 11) (b := (decide (s2.2 < 4))) rfl hB2 (fun hb hB2 => ?_) fun hb hB2 => ?_
          · refine Ok.skip ?_
            refine Ok.seq ?_
            refine Ok.block ?_
            refine Ok.region Tryz.tok ?_
            obtain ⟨x1, hx1, hB2⟩ := bindS hB2
            refine CallOk.call (w_sum_half_1 hx1) (LeL.refl _) ?_
            refine Ok.wk (Wk.tab (L := [(0, (.b 0 0)), (1, (.b 1 0)), (2, (.c (.func 115) [] [])), (3, (vi s1.1)), (4, (.v (.int .u32 x1))), (5, (vi s1.1)), (10, (vi s2.2))]) (H' := [(0, .box (List.map a_u32 ((List.replicate 16 0)))), (1, .box (List.map a_u32 s1.2))]) ⟨Le.refl _, Le.refl _, Le.refl _, Le.refl _, Le.refl _, Le.refl _, Le.refl _, True.intro⟩ ⟨⟨_, rfl, .refl _⟩, ⟨_, rfl, .refl _⟩, True.intro⟩ rfl) ?_
            refine Ok.region Tryz.tok ?_
            obtain ⟨hc1, hB2⟩ := chk_some hB2
            refine (Or.inl ⟨hc1, ?_⟩)
            exact ⟨_, (Option.some.inj hB2).symm, Wk.tab ⟨Le.refl _, Le.refl _, Le.refl _, Le.refl _, Le.refl _, Le.refl _, Le.refl _, True.intro⟩ ⟨⟨_, rfl, .refl _⟩, ⟨_, rfl, .refl _⟩, True.intro⟩ rfl⟩
          · refine Ok.exit ?_
            have hB2 := out_ret hB2 hy2
            cases hB2
            exact Wk.tab ⟨Le.refl _, Le.refl _, Le.refl _, Le.refl _, Le.refl _, Le.refl _, True.intro⟩ ⟨⟨_, rfl, .refl _⟩, ⟨_, rfl, .refl _⟩, True.intro⟩ rfl
        refine Ok.region Tryz.tok ?_
        obtain ⟨x2, hx2, hv2⟩ := bindS hv2
        obtain ⟨hc2, hv2⟩ := chk_some hv2
        refine ⟨_, idx_nat hx2, arr_lt hx2 hc2, bif_of (arr_st hx2) ⟨_, arr_set hx2, ?_⟩⟩
        cases hv2
        exact Wk.tab ⟨Le.refl _, Le.refl _, Le.refl _, Le.refl _, True.intro⟩ ⟨⟨_, rfl, .refl _⟩, ⟨_, rfl, .refl _⟩, True.intro⟩ rfl
      refine Ok.region Tryz.tok ?_
      obtain ⟨hc3, hB1⟩ := chk_some hB1
      refine (Or.inl ⟨hc3, ?_⟩)
      exact ⟨_, (Option.some.inj hB1).symm, Wk.tab ⟨Le.refl _, Le.refl _, Le.refl _, Le.refl _, True.intro⟩ ⟨⟨_, rfl, .refl _⟩, ⟨_, rfl, .refl _⟩, True.intro⟩ rfl⟩
    · refine Ok.exit ?_
      have hB1 := out_ret hB1 hy1
      cases hB1
      exact Wk.tab ⟨Le.refl _, Le.refl _, True.intro⟩ ⟨⟨_, rfl, .refl _⟩, ⟨_, rfl, .refl _⟩, True.intro⟩ rfl
  refine Ok.seq ?_
  refine Ok.region Tryz.tok ?_
  obtain ⟨hc4, h⟩ := chk_some h
  obtain ⟨hc5, h⟩ := chk_some h
  refine bif_of (arr_len hc4) ⟨_, arr_all hc4, bif_of (arr_sto (f := a_u32) (l := v1) (l0 := (List.replicate 16 0)) rfl hc5 (by rfl)) ⟨_, arr_seq (f := a_u32) (l := v1) (l0 := (List.replicate 16 0)) rfl (by rfl), ?_⟩⟩
  refine Ok.wk (Wk.tab (L := [(0, (.b 0 0))]) (H' := [(0, .box (List.map a_u32 v1))]) ⟨Le.refl _, True.intro⟩ ⟨⟨_, rfl, .refl _⟩, True.intro⟩ rfl) ?_
  refine Ok.ret ?_
  obtain ⟨hl1, h⟩ := chk_some h
  cases h
  exact bif_of (arr_len hl1) ⟨_, arr_all hl1, (Fz.arr (fun _ => rfl))⟩

theorem w_sum_of {p_t : List Int} {p_b : List UInt8} {r : Int} (h : sum_of p_t p_b = some r) : Pure Tryz.prog 96 [(.a (List.map a_u32 p_t)), (.s (List.map cU8 p_b))] (vi r) := by
  refine pure_of_ok (n := 36) (c := (Tryz.f96.body.getD .skip)) Tryz.tok Tryz.func96 (by kernel_rfl) rfl rfl (Nat.le_of_ble_eq_true rfl) ?_
  unfold sum_of at h
  refine Ok.wk (Wk.tab (L := [(0, (.a (List.map a_u32 p_t))), (1, (.s (List.map cU8 p_b)))]) (H' := []) ⟨Le.refl _, Le.refl _, True.intro⟩ True.intro rfl) ?_
  refine Ok.seq ?_
  refine Ok.region Tryz.tok ?_
  refine Ok.wk (Wk.tab (L := [(1, (.s (List.map cU8 p_b))), (2, (.b 2 0))]) (H' := [(2, .box (List.map a_u32 p_t))]) ⟨Le.refl _, Le.refl _, True.intro⟩ ⟨⟨_, rfl, .arr1 (fun _ _ => rfl)⟩, True.intro⟩ rfl) ?_
  refine Ok.seq ?_
  refine Ok.region Tryz.tok ?_
  refine Ok.wk (Wk.tab (L := [(1, (.s (List.map cU8 p_b))), (2, (.b 2 0)), (5, (.v (.int .u32 (4294967295))))]) (H' := [(2, .box (List.map a_u32 p_t))]) ⟨Le.refl _, Le.refl _, Le.refl _, True.intro⟩ ⟨⟨_, rfl, .refl _⟩, True.intro⟩ rfl) ?_
  obtain ⟨v1, hv1, h⟩ := bindS h
  refine Ok.seqw ⟨Cat.tab [(5, (.v (.int .u32 v1)))], []⟩ ?_ ?_
  · refine Ok.seq ?_
    refine Ok.region Tryz.tok ?_
    refine ⟨_, List.length_map _, fun _ => ?_⟩
    refine Ok.wk (Wk.tab (L := [(2, (.b 2 0)), (5, (.v (.int .u32 (4294967295)))), (8, (.s (List.map cU8 p_b))), (9, (vi ((p_b.length : Int)))), (10, (vi (0)))]) (H' := [(2, .box (List.map a_u32 p_t))]) ⟨Le.refl _, Le.refl _, Le.refl _, Le.refl _, Le.refl _, True.intro⟩ ⟨⟨_, rfl, .refl _⟩, True.intro⟩ rfl) ?_
    refine Ok.block ?_
    refine Ok.loop (fun (s1 : Int × Int) => ⟨Cat.tab [(2, (.b 2 0)), (5, (.v (.int .u32 s1.1))), (8, (.s (List.map cU8 p_b))), (9, (vi ((p_b.length : Int)))), (10, (vi s1.2))], [(2, .box (List.map a_u32 p_t))]⟩) (sum_of_B1 p_b p_t) (s0 := (4294967295, 0)) hv1 (Wk.tab ⟨Le.refl _, Le.refl _, Le.refl _, Le.refl _, Le.refl _, True.intro⟩ ⟨⟨_, rfl, .refl _⟩, True.intro⟩ rfl) ?_
    intro s1 y1 hB1 hy1
    unfold sum_of_B1 at hB1
    refine Ok.seq ?_
    refine Ok.region Tryz.tok ?_
    refine Ok.wk (Wk.tab (L := [(2, (.b 2 0)), (5, (.v (.int .u32 s1.1))), (8, (.s (List.map cU8 p_b))), (9, (vi ((p_b.length : Int)))), (10, (vi s1.2)), (11, (vb ((decide (s1.2 < (p_b.length : Int))))))]) (H' := [(2, .box (List.map a_u32 p_t))]) ⟨Le.refl _, Le.refl _, Le.refl _, Le.refl _, Le.refl _, Le.refl _, True.intro⟩ ⟨⟨_, rfl, .refl _⟩, True.intro⟩ rfl) ?_
    refine Ok.seq ?_
    refine Ok.cond (d := 11) (b := (decide (s1.2 < (p_b.length : Int)))) rfl hB1 (fun hb hB1 => ?_) fun hb hB1 => ?_
    · refine Ok.skip ?_
      refine Ok.seq ?_
      refine Ok.block ?_
      refine Ok.seq ?_
      refine Ok.region Tryz.tok ?_
      obtain ⟨x1, hx1, hB1⟩ := bindS hB1
      refine ⟨_, idx_nat hx1, _, idx_row hx1, ⟨_, rfl, ?_⟩⟩
      refine Ok.wk (Wk.tab (L := [(2, (.b 2 0)), (5, (.v (.int .u32 s1.1))), (7, (vu x1)), (8, (.s (List.map cU8 p_b))), (9, (vi ((p_b.length : Int)))), (10, (vi s1.2))]) (H' := [(2, .box (List.map a_u32 p_t))]) ⟨Le.refl _, Le.refl _, Le.refl _, Le.refl _, Le.refl _, Le.refl _, True.intro⟩ ⟨⟨_, rfl, .refl _⟩, True.intro⟩ rfl) ?_
      refine Ok.seq ?_
      refine Ok.region Tryz.tok ?_
      refine ⟨_, wrap_of_u8 (k := .u32) (by decide) _, ⟨_, rfl, ?_⟩⟩
      refine Ok.wk (Wk.tab (L := [(2, (.b 2 0)), (5, (.v (.int .u32 ((xorK .u32 s1.1 ((x1.toNat : Int))))))), (8, (.s (List.map cU8 p_b))), (9, (vi ((p_b.length : Int)))), (10, (vi s1.2))]) (H' := [(2, .box (List.map a_u32 p_t))]) ⟨Le.refl _, Le.refl _, Le.refl _, Le.refl _, Le.refl _, True.intro⟩ ⟨⟨_, rfl, .refl _⟩, True.intro⟩ rfl) ?_
      refine Ok.seq ?_
      refine Ok.region Tryz.tok ?_
      obtain ⟨x2, hx2, hB1⟩ := bindS hB1
      obtain ⟨hc1, hB1⟩ := chk_some hB1
      refine ⟨_, rfl, ⟨_, idx_nat hx2, arr_lt hx2 hc1, bif_of (arr_ble hx2) ⟨_, arr_get hx2, ⟨(by decide), _, rfl, ⟨_, rfl, ?_⟩⟩⟩⟩⟩
      refine Ok.wk (Wk.tab (L := [(2, (.b 2 0)), (5, (.v (.int .u32 ((xorK .u32 x2 ((shrK .u32 ((xorK .u32 s1.1 ((x1.toNat : Int)))) (4)))))))), (8, (.s (List.map cU8 p_b))), (9, (vi ((p_b.length : Int)))), (10, (vi s1.2))]) (H' := [(2, .box (List.map a_u32 p_t))]) ⟨Le.refl _, Le.refl _, Le.refl _, Le.refl _, Le.refl _, True.intro⟩ ⟨⟨_, rfl, .refl _⟩, True.intro⟩ rfl) ?_
      refine Ok.region Tryz.tok ?_
      obtain ⟨x3, hx3, hB1⟩ := bindS hB1
      obtain ⟨hc2, hB1⟩ := chk_some hB1
      refine ⟨_, rfl, ⟨_, idx_nat hx3, arr_lt hx3 hc2, bif_of (arr_ble hx3) ⟨_, arr_get hx3, ⟨(by decide), _, rfl, ⟨_, rfl, ?_⟩⟩⟩⟩⟩
      refine Ok.wk (Wk.tab (L := [(2, (.b 2 0)), (5, (.v (.int .u32 ((xorK .u32 x3 ((shrK .u32 ((xorK .u32 x2 ((shrK .u32 ((xorK .u32 s1.1 ((x1.toNat : Int)))) (4))))) (4)))))))), (8, (.s (List.map cU8 p_b))), (9, (vi ((p_b.length : Int)))), (10, (vi s1.2))]) (H' := [(2, .box (List.map a_u32 p_t))]) ⟨Le.refl _, Le.refl _, Le.refl _, Le.refl _, Le.refl _, True.intro⟩ ⟨⟨_, rfl, .refl _⟩, True.intro⟩ rfl) ?_
      refine Ok.region Tryz.tok ?_
      obtain ⟨hc3, hB1⟩ := chk_some hB1
      refine (Or.inl ⟨hc3, ?_⟩)
      exact ⟨_, (Option.some.inj hB1).symm, Wk.tab ⟨Le.refl _, Le.refl _, Le.refl _, Le.refl _, Le.refl _, True.intro⟩ ⟨⟨_, rfl, .refl _⟩, True.intro⟩ rfl⟩
    · refine Ok.exit ?_
      have hB1 := out_ret hB1 hy1
      cases hB1
      exact Wk.tab ⟨Le.refl _, True.intro⟩ True.intro rfl
  refine Ok.seq ?_
  refine Ok.region Tryz.tok ?_
  refine ⟨_, rfl, ⟨_, rfl, ?_⟩⟩
  refine Ok.wk (Wk.tab (L := [(4, (vi ((IntKind.i64.wrap ((xorK .u32 v1 (4294967295)))))))]) (H' := []) ⟨Le.refl _, True.intro⟩ True.intro rfl) ?_
  refine Ok.ret ?_
  cases h
  exact Fz.v

theorem wo_sum_Blocks {p_data : List UInt8} {r : (List Int)} (h : sum_Blocks p_data = some r) : POwn Tryz.prog 74 [(.s (List.map cU8 p_data))] 3 1 (List.map Go.Cat.encI r) := by
  refine pown_of_ok (n := 25) (c := (Tryz.f74.body.getD .skip)) Tryz.tok Tryz.func74 (by kernel_rfl) rfl rfl (Nat.le_of_ble_eq_true rfl) ?_
  unfold sum_Blocks at h
  refine Ok.wk (Wk.tab (L := [(0, (.s (List.map cU8 p_data)))]) (H' := []) ⟨Le.refl _, True.intro⟩ True.intro rfl) ?_
  refine Ok.seq ?_
  refine Ok.region Tryz.tok ?_
  refine Ok.wk (Wk.tab (L := [(0, (.s (List.map cU8 p_data)))]) (H' := []) ⟨Le.refl _, True.intro⟩ True.intro rfl) ?_
  refine Ok.seq ?_
  refine Ok.region Tryz.tok ?_
  obtain ⟨x1, hx1, h⟩ := bindS h
  refine CallOk.call (w_sum_half hx1) (LeL.refl _) ?_
  obtain ⟨hc1, h⟩ := chk_some h
  refine bif_of (arr_sto (f := a_u32) (l := x1) (l0 := (List.replicate 16 0)) (er_map (fun _ _ => rfl) _ _) hc1 (by rfl)) ⟨_, arr_seq (f := a_u32) (l := x1) (l0 := (List.replicate 16 0)) (er_map (fun _ _ => rfl) _ _) (by rfl), ?_⟩
  refine Ok.wk (Wk.tab (L := [(0, (.s (List.map cU8 p_data))), (3, (.b 3 0))]) (H' := [(3, .box (List.map a_u32 x1))]) ⟨Le.refl _, Le.refl _, True.intro⟩ ⟨⟨_, rfl, .refl _⟩, True.intro⟩ rfl) ?_
  refine Ok.seq ?_
  refine Ok.region Tryz.tok ?_
  refine Ok.wk (Wk.tab (L := [(0, (.s (List.map cU8 p_data))), (3, (.b 3 0)), (4, (.v (.slice none 0 0)))]) (H' := [(3, .box (List.map a_u32 x1))]) ⟨Le.refl _, Le.refl _, Le.refl _, True.intro⟩ ⟨⟨_, rfl, .refl _⟩, True.intro⟩ rfl) ?_
  obtain ⟨v1, hv1, h⟩ := bindS h
  refine Ok.seqw ⟨Cat.tab [(4, (.o 20))], [(20, .own 3 1 (List.map Go.Cat.encI v1))]⟩ ?_ ?_
  · refine Ok.block ?_
    refine Ok.loop (fun (s1 : (List UInt8) × (List Int)) => ⟨Cat.tab [(0, (.s (List.map cU8 s1.1))), (3, (.b 3 0)), (4, (.o 20))], [(3, .box (List.map a_u32 x1)), (20, .own 3 1 (List.map Go.Cat.encI s1.2))]⟩) (sum_Blocks_B1 x1) (s0 := (p_data, [])) hv1 ((Wk.own0 (t := 4) (id := 20) (E := 3) (K := 1) rfl rfl).trans (Wk.tab ⟨Le.refl _, Le.refl _, Le.refl _, True.intro⟩ ⟨⟨_, rfl, .arr1 (fun _ _ => rfl)⟩, ⟨_, rfl, .refl _⟩, True.intro⟩ rfl)) ?_
    intro s1 y1 hB1 hy1
    unfold sum_Blocks_B1 at hB1
    refine Ok.seq ?_
    refine Ok.seq ?_
    refine Ok.region Tryz.tok ?_
    refine ⟨_, List.length_map _, fun _ => ?_⟩
    refine Ok.wk (Wk.tab (L := [(0, (.s (List.map cU8 s1.1))), (3, (.b 3 0)), (4, (.o 20)), (9, (vb ((decide ((s1.1.length : Int) > 0)))))]) (H' := [(3, .box (List.map a_u32 x1)), (20, .own 3 1 (List.map Go.Cat.encI s1.2))]) ⟨Le.refl _, Le.refl _, Le.refl _, Le.refl _, True.intro⟩ ⟨⟨_, rfl, .refl _⟩, ⟨_, rfl, .refl _⟩, True.intro⟩ rfl) ?_
    refine Ok.cond (d := 9) (b := (decide ((s1.1.length : Int) > 0))) rfl hB1 (fun hb hB1 => ?_) fun hb hB1 => ?_
    · refine Ok.skip ?_
      refine Ok.block ?_
      refine Ok.seq ?_
      refine Ok.region Tryz.tok ?_
      refine ⟨_, List.length_map _, fun _ => ⟨_, rfl, ?_⟩⟩
      refine Ok.wk (Wk.tab (L := [(0, (.s (List.map cU8 s1.1))), (3, (.b 3 0)), (4, (.o 20)), (5, (vi ((min ((s1.1.length : Int)) (16)))))]) (H' := [(3, .box (List.map a_u32 x1)), (20, .own 3 1 (List.map Go.Cat.encI s1.2))]) ⟨Le.refl _, Le.refl _, Le.refl _, Le.refl _, True.intro⟩ ⟨⟨_, rfl, .refl _⟩, ⟨_, rfl, .refl _⟩, True.intro⟩ rfl) ?_
      refine Ok.seq ?_
      refine Ok.draw (m := 7) (MD := ⟨[]⟩) (CH := ⟨[]⟩) Tryz.tok Tryz.mixed (by kernel_rfl) ?_
      obtain ⟨hc2, hB1⟩ := chk_some hB1
      obtain ⟨hc3, hB1⟩ := chk_some hB1
      obtain ⟨x2, hx2, hB1⟩ := bindS hB1
      obtain ⟨hc4, hB1⟩ := chk_some hB1
      refine ⟨_, rfl, ⟨_, bif_of (arr_len hc2) ⟨_, arr_all hc2, rfl⟩, ⟨_, rfl, ⟨_, rfl, ⟨_, ⟨_, sl_nat hc3.1, Nat.zero_le _, sl_len hc3, rowsK (f := cU8) (K := 1) (fun _ => rfl) s1.1, _, sl_take _ _ _, rfl⟩, ⟨_, ⟨_, .of_pure (w_sum_of hx2) (LeL.refl _), rfl⟩, ⟨_, rfl, ⟨True.intro, ⟨rowsLen_map (f := Go.Cat.encI) (n := 1) (fun _ => rfl) ([x2]), app_b2 (f := Go.Cat.encI) (l := s1.2) (l' := ([x2])) hc4, _, (List.map_append (f := Go.Cat.encI) (l₁ := s1.2) (l₂ := ([x2]))).symm, ?_⟩⟩⟩⟩⟩⟩⟩⟩⟩
      refine Ok.wk (Wk.tab (L := [(0, (.s (List.map cU8 s1.1))), (3, (.b 3 0)), (4, (.o 20)), (5, (vi ((min ((s1.1.length : Int)) (16)))))]) (H' := [(3, .box (List.map a_u32 x1)), (20, .own 3 1 (List.map Go.Cat.encI ((s1.2 ++ [x2]))))]) ⟨Le.refl _, Le.refl _, Le.refl _, Le.refl _, True.intro⟩ ⟨⟨_, rfl, .arr1 (fun _ _ => rfl)⟩, ⟨_, rfl, .refl _⟩, True.intro⟩ rfl) ?_
      refine Ok.region Tryz.tok ?_
      obtain ⟨hc5, hB1⟩ := chk_some hB1
      refine ⟨_, sl_nat hc5.1, sl_len hc5, Nat.le_refl _, rowsK (f := cU8) (K := 1) (fun _ => rfl) s1.1, _, sl_drop _ _ _, ?_⟩
      exact ⟨_, (Option.some.inj hB1).symm, Wk.tab ⟨Le.refl _, Le.refl _, Le.refl _, True.intro⟩ ⟨⟨_, rfl, .refl _⟩, ⟨_, rfl, .refl _⟩, True.intro⟩ rfl⟩
    · refine Ok.exit ?_
      have hB1 := out_ret hB1 hy1
      cases hB1
      exact Wk.tab ⟨Le.refl _, True.intro⟩ ⟨⟨_, rfl, .refl _⟩, True.intro⟩ rfl
  refine Ok.seq ?_
  refine Ok.region Tryz.tok ?_
  refine Ok.wk (Wk.tab (L := [(2, (.o 20))]) (H' := [(20, .own 3 1 (List.map Go.Cat.encI v1))]) ⟨Le.refl _, True.intro⟩ ⟨⟨_, rfl, .refl _⟩, True.intro⟩ rfl) ?_
  refine Ok.ret ?_
  cases h
  exact (.inr ⟨_, rfl, rfl⟩)
theorem w_sum_Blocks {p_data : List UInt8} {r : (List Int)} (h : sum_Blocks p_data = some r) : Pure Tryz.prog 74 [(.s (List.map cU8 p_data))] (.s (List.map Go.Cat.encI r)) := (wo_sum_Blocks h).pure

theorem w_chunk_New {p_id : Int} {p_ver : Int} {p_data : List UInt8} {r : api_Copy} (h : chunk_New p_id p_ver p_data = some r) : Pure Tryz.prog 44 [(vi p_id), (vi p_ver), (.s (List.map cU8 p_data))] (.a [(vi r.Id), (vi r.Ver), (.s (List.map cU8 r.Data)), (.s (List.map Go.Cat.encI r.Sums))]) := by
  refine pure_of_ok (n := 14) (c := (Tryz.f44.body.getD .skip)) Tryz.tok Tryz.func44 (by kernel_rfl) rfl rfl (Nat.le_of_ble_eq_true rfl) ?_
  unfold chunk_New at h
  refine Ok.wk (Wk.tab (L := [(0, (vi p_id)), (1, (vi p_ver)), (2, (.s (List.map cU8 p_data)))]) (H' := []) ⟨Le.refl _, Le.refl _, Le.refl _, True.intro⟩ True.intro rfl) ?_
  refine Ok.seq ?_
  refine Ok.region Tryz.tok ?_
  refine Ok.wk (Wk.tab (L := [(0, (vi p_id)), (1, (vi p_ver)), (2, (.s (List.map cU8 p_data))), (6, (.b 6 0))]) (H' := [(6, .box [(vi (0)), (vi (0)), (.v (.slice none 0 0)), (.v (.slice none 0 0))])]) ⟨Le.refl _, Le.refl _, Le.refl _, Le.refl _, True.intro⟩ ⟨⟨_, rfl, .refl _⟩, True.intro⟩ rfl) ?_
  refine Ok.seq ?_
  refine Ok.region Tryz.tok ?_
  obtain ⟨x1, hx1, h⟩ := bindS h
  refine CallOk.call (w_slices_Clone_byte_byte hx1) (LeL.refl _) ?_
  obtain ⟨x2, hx2, h⟩ := bindS h
  refine CallOk.call (w_sum_Blocks hx2) (LeL.refl _) ?_
  refine ⟨_, rfl, ?_⟩
  refine Ok.wk (Wk.tab (L := [(6, (.b 6 0))]) (H' := [(6, .box [(vi p_id), (vi p_ver), (.s (List.map cU8 x1)), (.s (List.map Go.Cat.encI x2))])]) ⟨Le.refl _, True.intro⟩ ⟨⟨_, rfl, .refl _⟩, True.intro⟩ rfl) ?_
  refine Ok.ret ?_
  cases h
  exact ⟨_, rfl, (Fz.imm rfl)⟩

theorem w_chunk_within {p_id : Int} {r : Bool} (h : chunk_within p_id = some r) : Pure Tryz.prog 59 [(vi p_id)] (vb r) := by
  refine pure_of_ok (n := 9) (c := (Tryz.f59.body.getD .skip)) Tryz.tok Tryz.func59 (by kernel_rfl) rfl rfl (Nat.le_of_ble_eq_true rfl) ?_
  unfold chunk_within at h
  refine Ok.wk (Wk.tab (L := [(0, (vi p_id))]) (H' := []) ⟨Le.refl _, True.intro⟩ True.intro rfl) ?_
  refine Ok.seq ?_
  refine Ok.region Tryz.tok ?_
  refine Ok.wk (Wk.tab (L := [(0, (vi p_id))]) (H' := []) ⟨Le.refl _, True.intro⟩ True.intro rfl) ?_
  obtain ⟨v1, hv1, h⟩ := bindS h
  refine Ok.seqw ⟨Cat.tab [(2, (vb v1))], []⟩ ?_ ?_
  · refine Ok.region Tryz.tok ?_
    obtain ⟨c1, hg1, hv1⟩ := bindS hv1
    refine Br.ite hg1 (fun hb hg1 => ?_) fun hb hg1 => ?_
    · cases hg1
      cases hv1
      exact Wk.tab ⟨Le.refl _, True.intro⟩ True.intro rfl
    · cases hg1
      cases hv1
      exact Wk.tab ⟨Le.refl _, True.intro⟩ True.intro rfl
  refine Ok.ret ?_
  cases h
  exact Fz.v

theorem w_sum_Check {p_data : List UInt8} {p_sums : List Int} {r : Int} (h : sum_Check p_data p_sums = some r) : Pure Tryz.prog 66 [(.s (List.map cU8 p_data)), (.s (List.map Go.Cat.encI p_sums))] (vi r) := by
  refine pure_of_ok (n := 38) (c := (Tryz.f66.body.getD .skip)) Tryz.tok Tryz.func66 (by kernel_rfl) rfl rfl (Nat.le_of_ble_eq_true rfl) ?_
  unfold sum_Check at h
  refine Ok.wk (Wk.tab (L := [(0, (.s (List.map cU8 p_data))), (1, (.s (List.map Go.Cat.encI p_sums)))]) (H' := []) ⟨Le.refl _, Le.refl _, True.intro⟩ True.intro rfl) ?_
  refine Ok.seq ?_
  refine Ok.region Tryz.tok ?_
  refine Ok.wk (Wk.tab (L := [(0, (.s (List.map cU8 p_data))), (1, (.s (List.map Go.Cat.encI p_sums)))]) (H' := []) ⟨Le.refl _, Le.refl _, True.intro⟩ True.intro rfl) ?_
  refine Ok.seq ?_
  refine Ok.region Tryz.tok ?_
  obtain ⟨x1, hx1, h⟩ := bindS h
  refine CallOk.call (w_sum_Blocks hx1) (LeL.refl _) ?_
  refine Ok.wk (Wk.tab (L := [(1, (.s (List.map Go.Cat.encI p_sums))), (5, (.s (List.map Go.Cat.encI x1)))]) (H' := []) ⟨Le.refl _, Le.refl _, True.intro⟩ True.intro rfl) ?_
  refine Ok.seqj (fun v1 => ⟨Cat.tab [(1, (.s (List.map Go.Cat.encI p_sums))), (5, (.s (List.map Go.Cat.encI x1)))], []⟩) (fun v1 => sum_Check_J1 x1 p_sums v1 = some r) ?_ ?_
  · refine Ok.seq ?_
    refine Ok.region Tryz.tok ?_
    refine ⟨_, List.length_map _, fun _ => ⟨_, List.length_map _, fun _ => ⟨_, rfl, ?_⟩⟩⟩
    refine Ok.wk (Wk.tab (L := [(1, (.s (List.map Go.Cat.encI p_sums))), (5, (.s (List.map Go.Cat.encI x1))), (13, (vi ((min ((x1.length : Int)) ((p_sums.length : Int)))))), (14, (vi (0)))]) (H' := []) ⟨Le.refl _, Le.refl _, Le.refl _, Le.refl _, True.intro⟩ True.intro rfl) ?_
    refine Ok.block ?_
    refine Ok.loop (fun (s1 : Int) => ⟨Cat.tab [(1, (.s (List.map Go.Cat.encI p_sums))), (5, (.s (List.map Go.Cat.encI x1))), (13, (vi ((min ((x1.length : Int)) ((p_sums.length : Int)))))), (14, (vi s1))], []⟩) (sum_Check_B1 x1 p_sums) (s0 := 0) h (Wk.tab ⟨Le.refl _, Le.refl _, Le.refl _, Le.refl _, True.intro⟩ True.intro rfl) ?_
    intro s1 y1 hB1 hy1
    unfold sum_Check_B1 at hB1
    refine Ok.seq ?_
    refine Ok.region Tryz.tok ?_
    refine Ok.wk (Wk.tab (L := [(1, (.s (List.map Go.Cat.encI p_sums))), (5, (.s (List.map Go.Cat.encI x1))), (13, (vi ((min ((x1.length : Int)) ((p_sums.length : Int)))))), (14, (vi s1)), (15, (vb ((decide (s1 < (min ((x1.length : Int)) ((p_sums.length : Int))))))))]) (H' := []) ⟨Le.refl _, Le.refl _, Le.refl _, Le.refl _, Le.refl _, True.intro⟩ True.intro rfl) ?_
    refine Ok.seq ?_
    refine Ok.cond (d := 15) (b := (decide (s1 < (min ((x1.length : Int)) ((p_sums.length : Int)))))) rfl hB1 (fun hb hB1 => ?_) fun hb hB1 => ?_
    · refine Ok.skip ?_
      refine Ok.seq ?_
      refine Ok.block ?_
      refine Ok.seq ?_
      refine Ok.region Tryz.tok ?_
      refine Ok.wk (Wk.tab (L := [(1, (.s (List.map Go.Cat.encI p_sums))), (5, (.s (List.map Go.Cat.encI x1))), (6, (vi s1)), (13, (vi ((min ((x1.length : Int)) ((p_sums.length : Int)))))), (14, (vi s1))]) (H' := []) ⟨Le.refl _, Le.refl _, Le.refl _, Le.refl _, Le.refl _, True.intro⟩ True.intro rfl) ?_
      refine Ok.seq ?_
      refine Ok.draw (m := 9) (MD := ⟨[]⟩) (CH := ⟨[]⟩) Tryz.tok Tryz.mixed (by kernel_rfl) ?_
      obtain ⟨x2, hx2, hB1⟩ := bindS hB1
      obtain ⟨x3, hx3, hB1⟩ := bindS hB1
      refine ⟨_, rfl, ⟨_, rfl, ⟨_, ⟨_, idx_nat hx2, _, idx_row hx2, rfl⟩, ⟨_, ⟨_, rfl, rfl⟩, ⟨_, rfl, ⟨_, rfl, ⟨_, ⟨_, idx_nat hx3, _, idx_row hx3, rfl⟩, ⟨_, ⟨_, rfl, rfl⟩, ⟨_, rfl, ⟨True.intro, ?_⟩⟩⟩⟩⟩⟩⟩⟩⟩⟩
      refine Ok.wk (Wk.tab (L := [(1, (.s (List.map Go.Cat.encI p_sums))), (5, (.s (List.map Go.Cat.encI x1))), (6, (vi s1)), (13, (vi ((min ((x1.length : Int)) ((p_sums.length : Int)))))), (14, (vi s1)), (25, (vb ((x2 != x3))))]) (H' := []) ⟨Le.refl _, Le.refl _, Le.refl _, Le.refl _, Le.refl _, Le.refl _, True.intro⟩ True.intro rfl) ?_
      refine Ok.cond (d := 25) (b := (x2 != x3)) rfl hB1 (fun hb hB1 => ?_) fun hb hB1 => ?_
      · refine Ok.seq ?_
        refine Ok.region Tryz.tok ?_
        refine Ok.wk (Wk.tab (L := [(4, (vi s1))]) (H' := []) ⟨Le.refl _, True.intro⟩ True.intro rfl) ?_
        refine Ok.ret ?_
        have hB1 := out_ret hB1 hy1
        cases hB1
        exact Fz.v
      · refine Ok.skip ?_
        refine Ok.region Tryz.tok ?_
        obtain ⟨hc1, hB1⟩ := chk_some hB1
        refine (Or.inl ⟨hc1, ?_⟩)
        exact ⟨_, (Option.some.inj hB1).symm, Wk.tab ⟨Le.refl _, Le.refl _, Le.refl _, Le.refl _, True.intro⟩ True.intro rfl⟩
    · refine Ok.exit ?_
      have hB1 := out_ret hB1 hy1
      exact ⟨_, hB1, Wk.tab ⟨Le.refl _, Le.refl _, True.intro⟩ True.intro rfl⟩
  intro v1 h
  unfold sum_Check_J1 at h
  refine Ok.seq ?_
  refine Ok.seq ?_
  refine Ok.region Tryz.tok ?_
  refine ⟨_, List.length_map _, fun _ => ⟨_, List.length_map _, fun _ => ?_⟩⟩
  refine Ok.wk (Wk.tab (L := [(1, (.s (List.map Go.Cat.encI p_sums))), (5, (.s (List.map Go.Cat.encI x1))), (32, (vb (((x1.length : Int) != (p_sums.length : Int)))))]) (H' := []) ⟨Le.refl _, Le.refl _, Le.refl _, True.intro⟩ True.intro rfl) ?_
  refine Ok.cond (d := 32) (b := ((x1.length : Int) != (p_sums.length : Int))) rfl h (fun hb h => ?_) fun hb h => ?_
  · refine Ok.seq ?_
    refine Ok.region Tryz.tok ?_
    refine ⟨_, List.length_map _, fun _ => ⟨_, List.length_map _, fun _ => ⟨_, rfl, ?_⟩⟩⟩
    refine Ok.wk (Wk.tab (L := [(4, (vi ((min ((x1.length : Int)) ((p_sums.length : Int))))))]) (H' := []) ⟨Le.refl _, True.intro⟩ True.intro rfl) ?_
    refine Ok.ret ?_
    cases h
    exact Fz.v
  · refine Ok.skip ?_
    refine Ok.seq ?_
    refine Ok.region Tryz.tok ?_
    refine Ok.wk (Wk.tab (L := [(4, (vi ((-1))))]) (H' := []) ⟨Le.refl _, True.intro⟩ True.intro rfl) ?_
    refine Ok.ret ?_
    cases h
    exact Fz.v

theorem w_chunk_may {p_c : api_Copy} {r : Bool} (h : chunk_may p_c = some r) : Pure Tryz.prog 38 [(.a [(vi p_c.Id), (vi p_c.Ver), (.s (List.map cU8 p_c.Data)), (.s (List.map Go.Cat.encI p_c.Sums))])] (vb r) := by
  refine pure_of_ok (n := 30) (c := (Tryz.f38.body.getD .skip)) Tryz.tok Tryz.func38 (by kernel_rfl) rfl rfl (Nat.le_of_ble_eq_true rfl) ?_
  unfold chunk_may at h
  refine Ok.wk (Wk.tab (L := [(0, (.a [(vi p_c.Id), (vi p_c.Ver), (.s (List.map cU8 p_c.Data)), (.s (List.map Go.Cat.encI p_c.Sums))]))]) (H' := []) ⟨Le.refl _, True.intro⟩ True.intro rfl) ?_
  refine Ok.seq ?_
  refine Ok.region Tryz.tok ?_
  refine Ok.wk (Wk.tab (L := [(1, (.b 1 0))]) (H' := [(1, .box [(vi p_c.Id), (vi p_c.Ver), (.s (List.map cU8 p_c.Data)), (.s (List.map Go.Cat.encI p_c.Sums))])]) ⟨Le.refl _, True.intro⟩ ⟨⟨_, rfl, .refl _⟩, True.intro⟩ rfl) ?_
  obtain ⟨v1, hv1, h⟩ := bindS h
  refine Ok.seqw ⟨Cat.tab [(2, (vb v1))], []⟩ ?_ ?_
  · refine Ok.region Tryz.tok ?_
    obtain ⟨x1, hx1, hv1⟩ := bindS hv1
    refine ⟨_, rfl, ?_⟩
    refine CallOk.call (w_chunk_within hx1) (LeL.refl _) ?_
    obtain ⟨c1, hg1, hv1⟩ := bindS hv1
    refine Br.ite hg1 (fun hb hg1 => ?_) fun hb hg1 => ?_
    · refine ⟨_, rfl, ?_⟩
      cases hg1
      obtain ⟨c2, hg2, hv1⟩ := bindS hv1
      refine Br.ite hg2 (fun hb hg2 => ?_) fun hb hg2 => ?_
      · refine ⟨_, rfl, ?_⟩
        cases hg2
        obtain ⟨c3, hg3, hv1⟩ := bindS hv1
        refine Br.ite hg3 (fun hb hg3 => ?_) fun hb hg3 => ?_
        · refine ⟨_, rfl, ⟨_, List.length_map _, fun _ => ?_⟩⟩
          cases hg3
          obtain ⟨c4, hg4, hv1⟩ := bindS hv1
          refine Br.ite hg4 (fun hb hg4 => ?_) fun hb hg4 => ?_
          · obtain ⟨x2, hx2, hg4⟩ := bindS hg4
            refine ⟨_, rfl, ⟨_, rfl, ?_⟩⟩
            refine CallOk.call (w_sum_Check hx2) (LeL.refl _) ?_
            cases hg4
            cases hv1
            exact Wk.tab ⟨Le.refl _, True.intro⟩ True.intro rfl
          · cases hg4
            cases hv1
            exact Wk.tab ⟨Le.refl _, True.intro⟩ True.intro rfl
        · cases hg3
          obtain ⟨c4, hg5, hv1⟩ := bindS hv1
          replace hg5 := iteF hg5
          cases hg5
          cases hv1
          exact Wk.tab ⟨Le.refl _, True.intro⟩ True.intro rfl
      · cases hg2
        obtain ⟨c3, hg6, hv1⟩ := bindS hv1
        replace hg6 := iteF hg6
        cases hg6
        obtain ⟨c4, hg7, hv1⟩ := bindS hv1
        replace hg7 := iteF hg7
        cases hg7
        cases hv1
        exact Wk.tab ⟨Le.refl _, True.intro⟩ True.intro rfl
    · cases hg1
      obtain ⟨c2, hg8, hv1⟩ := bindS hv1
      replace hg8 := iteF hg8
      cases hg8
      obtain ⟨c3, hg9, hv1⟩ := bindS hv1
      replace hg9 := iteF hg9
      cases hg9
      obtain ⟨c4, hg10, hv1⟩ := bindS hv1
      replace hg10 := iteF hg10
      cases hg10
      cases hv1
      exact Wk.tab ⟨Le.refl _, True.intro⟩ True.intro rfl
  refine Ok.ret ?_
  cases h
  exact Fz.v

theorem wo_pack_Int {p_n : Int} {r : (List UInt8)} (h : pack_Int p_n = some r) : POwn Tryz.prog 68 [(vi p_n)] 5 1 (List.map cU8 r) := by
  refine pown_of_ok (n := 27) (c := (Tryz.f68.body.getD .skip)) Tryz.tok Tryz.func68 (by kernel_rfl) rfl rfl (Nat.le_of_ble_eq_true rfl) ?_
  unfold pack_Int at h
  refine Ok.wk (Wk.tab (L := [(0, (vi p_n))]) (H' := []) ⟨Le.refl _, True.intro⟩ True.intro rfl) ?_
  refine Ok.seq ?_
  refine Ok.region Tryz.tok ?_
  refine Ok.wk (Wk.tab (L := [(0, (vi p_n))]) (H' := []) ⟨Le.refl _, True.intro⟩ True.intro rfl) ?_
  refine Ok.seq ?_
  refine Ok.region Tryz.tok ?_
  refine Ok.wk (Wk.tab (L := [(0, (vi p_n)), (3, (.v (.slice none 0 0)))]) (H' := []) ⟨Le.refl _, Le.refl _, True.intro⟩ True.intro rfl) ?_
  refine Ok.seq ?_
  refine Ok.region Tryz.tok ?_
  refine ⟨_, rfl, ⟨(by decide), _, rfl, ⟨(by decide), _, rfl, ⟨_, rfl, ⟨_, rfl, ?_⟩⟩⟩⟩⟩
  refine Ok.wk (Wk.tab (L := [(3, (.v (.slice none 0 0))), (4, (.v (.int .u64 ((xorK .u64 ((shlK .u64 ((IntKind.u64.wrap p_n)) (1))) ((IntKind.u64.wrap ((shrK .i64 p_n (63))))))))))]) (H' := []) ⟨Le.refl _, Le.refl _, True.intro⟩ True.intro rfl) ?_
  obtain ⟨v1, hv1, h⟩ := bindS h
  refine Ok.seqw ⟨Cat.tab [(3, (.o 21)), (4, (.v (.int .u64 v1.1)))], [(21, .own 5 1 (List.map cU8 v1.2))]⟩ ?_ ?_
  · refine Ok.block ?_
    refine Ok.loop (fun (s1 : Int × (List UInt8)) => ⟨Cat.tab [(3, (.o 21)), (4, (.v (.int .u64 s1.1)))], [(21, .own 5 1 (List.map cU8 s1.2))]⟩) (pack_Int_B1) (s0 := ((xorK .u64 ((shlK .u64 ((IntKind.u64.wrap p_n)) (1))) ((IntKind.u64.wrap ((shrK .i64 p_n (63)))))), [])) hv1 ((Wk.own0 (t := 3) (id := 21) (E := 5) (K := 1) rfl rfl).trans (Wk.tab ⟨Le.refl _, Le.refl _, True.intro⟩ ⟨⟨_, rfl, .refl _⟩, True.intro⟩ rfl)) ?_
    intro s1 y1 hB1 hy1
    unfold pack_Int_B1 at hB1
    refine Ok.seq ?_
    refine Ok.seq ?_
    refine Ok.region Tryz.tok ?_
    refine Ok.wk (Wk.tab (L := [(3, (.o 21)), (4, (.v (.int .u64 s1.1))), (13, (vb ((decide (s1.1 ≥ 128)))))]) (H' := [(21, .own 5 1 (List.map cU8 s1.2))]) ⟨Le.refl _, Le.refl _, Le.refl _, True.intro⟩ ⟨⟨_, rfl, .refl _⟩, True.intro⟩ rfl) ?_
    refine Ok.cond (d := 13) (b := (decide (s1.1 ≥ 128))) rfl hB1 (fun hb hB1 => ?_) fun hb hB1 => ?_
    · refine Ok.skip ?_
      refine Ok.seq ?_
      refine Ok.block ?_
      refine Ok.region Tryz.tok ?_
      obtain ⟨hc1, hB1⟩ := chk_some hB1
      refine ⟨_, (toU8_wrap _), ⟨_, b8_or ((toU8 s1.1)) ((128 : UInt8)), Or.inl ⟨rowsLen_map (f := cU8) (n := 1) (fun _ => rfl) ([((toU8 s1.1) ||| (128 : UInt8))]), app_b2 (f := cU8) (l := s1.2) (l' := ([((toU8 s1.1) ||| (128 : UInt8))])) hc1, _, (List.map_append (f := cU8) (l₁ := s1.2) (l₂ := ([((toU8 s1.1) ||| (128 : UInt8))]))).symm, ?_⟩⟩⟩
      refine Ok.wk (Wk.tab (L := [(3, (.o 21)), (4, (.v (.int .u64 s1.1)))]) (H' := [(21, .own 5 1 (List.map cU8 ((s1.2 ++ [((toU8 s1.1) ||| (128 : UInt8))]))))]) ⟨Le.refl _, Le.refl _, True.intro⟩ ⟨⟨_, rfl, .refl _⟩, True.intro⟩ rfl) ?_
      refine Ok.region Tryz.tok ?_
      refine ⟨(by decide), _, rfl, ?_⟩
      exact ⟨_, (Option.some.inj hB1).symm, Wk.tab ⟨Le.refl _, Le.refl _, True.intro⟩ ⟨⟨_, rfl, .refl _⟩, True.intro⟩ rfl⟩
    · refine Ok.exit ?_
      have hB1 := out_ret hB1 hy1
      cases hB1
      exact Wk.tab ⟨Le.refl _, Le.refl _, True.intro⟩ ⟨⟨_, rfl, .refl _⟩, True.intro⟩ rfl
  refine Ok.seq ?_
  refine Ok.region Tryz.tok ?_
  obtain ⟨hc2, h⟩ := chk_some h
  refine ⟨_, (toU8_wrap _), Or.inl ⟨rowsLen_map (f := cU8) (n := 1) (fun _ => rfl) ([(toU8 v1.1)]), app_b2 (f := cU8) (l := v1.2) (l' := ([(toU8 v1.1)])) hc2, _, (List.map_append (f := cU8) (l₁ := v1.2) (l₂ := ([(toU8 v1.1)]))).symm, ?_⟩⟩
  refine Ok.wk (Wk.tab (L := [(2, (.o 21))]) (H' := [(21, .own 5 1 (List.map cU8 ((v1.2 ++ [(toU8 v1.1)]))))]) ⟨Le.refl _, True.intro⟩ ⟨⟨_, rfl, .refl _⟩, True.intro⟩ rfl) ?_
  refine Ok.ret ?_
  cases h
  exact (.inr ⟨_, rfl, rfl⟩)
theorem w_pack_Int {p_n : Int} {r : (List UInt8)} (h : pack_Int p_n = some r) : Pure Tryz.prog 68 [(vi p_n)] (.s (List.map cU8 r)) := (wo_pack_Int h).pure

theorem wo_pack_Str {p_s : List UInt8} {r : (List UInt8)} (h : pack_Str p_s = some r) : POwn Tryz.prog 69 [(vs p_s)] 5 1 (List.map cU8 r) := by
  refine pown_of_ok (n := 8) (c := (Tryz.f69.body.getD .skip)) Tryz.tok Tryz.func69 (by kernel_rfl) rfl rfl (Nat.le_of_ble_eq_true rfl) ?_
  unfold pack_Str at h
  refine Ok.wk (Wk.tab (L := [(0, (vs p_s))]) (H' := []) ⟨Le.refl _, True.intro⟩ True.intro rfl) ?_
  refine Ok.seq ?_
  refine Ok.region Tryz.tok ?_
  refine Ok.wk (Wk.tab (L := [(0, (vs p_s))]) (H' := []) ⟨Le.refl _, True.intro⟩ True.intro rfl) ?_
  refine Ok.seq ?_
  refine Ok.region Tryz.tok ?_
  obtain ⟨x1, hx1, h⟩ := bindS h
  refine ⟨_, str_size _, ?_⟩
  refine CallOk.own (D := 5) (wo_pack_Int hx1) (LeL.refl _) rfl ?_
  obtain ⟨hc1, h⟩ := chk_some h
  refine ⟨rowsLen_map (f := cU8) (n := 1) (fun _ => rfl) p_s, app_b2 (f := cU8) (l := x1) (l' := p_s) hc1, _, (List.map_append (f := cU8) (l₁ := x1) (l₂ := p_s)).symm, ?_⟩
  refine Ok.wk (Wk.tab (L := [(2, (.o 5))]) (H' := [(5, .own 5 1 (List.map cU8 ((x1 ++ p_s))))]) ⟨Le.refl _, True.intro⟩ ⟨⟨_, rfl, .refl _⟩, True.intro⟩ rfl) ?_
  refine Ok.ret ?_
  cases h
  exact (.inr ⟨_, rfl, rfl⟩)
theorem w_pack_Str {p_s : List UInt8} {r : (List UInt8)} (h : pack_Str p_s = some r) : Pure Tryz.prog 69 [(vs p_s)] (.s (List.map cU8 r)) := (wo_pack_Str h).pure

theorem wo_pack_numbers {p_l : List Int} {r : (List UInt8)} (h : pack_numbers p_l = some r) : POwn Tryz.prog 95 [(.s (List.map Go.Cat.encI p_l))] 5 1 (List.map cU8 r) := by
  refine pown_of_ok (n := 18) (c := (Tryz.f95.body.getD .skip)) Tryz.tok Tryz.func95 (by kernel_rfl) rfl rfl (Nat.le_of_ble_eq_true rfl) ?_
  unfold pack_numbers at h
  refine Ok.wk (Wk.tab (L := [(0, (.s (List.map Go.Cat.encI p_l)))]) (H' := []) ⟨Le.refl _, True.intro⟩ True.intro rfl) ?_
  refine Ok.seq ?_
  refine Ok.region Tryz.tok ?_
  refine Ok.wk (Wk.tab (L := [(0, (.s (List.map Go.Cat.encI p_l)))]) (H' := []) ⟨Le.refl _, True.intro⟩ True.intro rfl) ?_
  refine Ok.seq ?_
  refine Ok.region Tryz.tok ?_
  refine Ok.wk (Wk.tab (L := [(0, (.s (List.map Go.Cat.encI p_l))), (3, (.v (.slice none 0 0)))]) (H' := []) ⟨Le.refl _, Le.refl _, True.intro⟩ True.intro rfl) ?_
  obtain ⟨v1, hv1, h⟩ := bindS h
  refine Ok.seqw ⟨Cat.tab [(3, (.o 15))], [(15, .own 5 1 (List.map cU8 v1))]⟩ ?_ ?_
  · refine Ok.seq ?_
    refine Ok.region Tryz.tok ?_
    refine ⟨_, List.length_map _, fun _ => ?_⟩
    refine Ok.wk (Wk.tab (L := [(3, (.v (.slice none 0 0))), (6, (.s (List.map Go.Cat.encI p_l))), (7, (vi ((p_l.length : Int)))), (8, (vi (0)))]) (H' := []) ⟨Le.refl _, Le.refl _, Le.refl _, Le.refl _, True.intro⟩ True.intro rfl) ?_
    refine Ok.block ?_
    refine Ok.loop (fun (s1 : Int × (List UInt8)) => ⟨Cat.tab [(3, (.o 15)), (6, (.s (List.map Go.Cat.encI p_l))), (7, (vi ((p_l.length : Int)))), (8, (vi s1.1))], [(15, .own 5 1 (List.map cU8 s1.2))]⟩) (pack_numbers_B1 p_l) (s0 := (0, [])) hv1 ((Wk.own0 (t := 3) (id := 15) (E := 5) (K := 1) rfl rfl).trans (Wk.tab ⟨Le.refl _, Le.refl _, Le.refl _, Le.refl _, True.intro⟩ ⟨⟨_, rfl, .refl _⟩, True.intro⟩ rfl)) ?_
    intro s1 y1 hB1 hy1
    unfold pack_numbers_B1 at hB1
    refine Ok.seq ?_
    refine Ok.region Tryz.tok ?_
    refine Ok.wk (Wk.tab (L := [(3, (.o 15)), (6, (.s (List.map Go.Cat.encI p_l))), (7, (vi ((p_l.length : Int)))), (8, (vi s1.1)), (9, (vb ((decide (s1.1 < (p_l.length : Int))))))]) (H' := [(15, .own 5 1 (List.map cU8 s1.2))]) ⟨Le.refl _, Le.refl _, Le.refl _, Le.refl _, Le.refl _, True.intro⟩ ⟨⟨_, rfl, .refl _⟩, True.intro⟩ rfl) ?_
    refine Ok.seq ?_
    refine Ok.cond (d := 9) (b := (decide (s1.1 < (p_l.length : Int)))) rfl hB1 (fun hb hB1 => ?_) fun hb hB1 => ?_
    · refine Ok.skip ?_
      refine Ok.seq ?_
      refine Ok.block ?_
      refine Ok.seq ?_
      refine Ok.region Tryz.tok ?_
      obtain ⟨x1, hx1, hB1⟩ := bindS hB1
      refine ⟨_, idx_nat hx1, _, idx_row hx1, ⟨_, rfl, ?_⟩⟩
      refine Ok.wk (Wk.tab (L := [(3, (.o 15)), (5, (vi x1)), (6, (.s (List.map Go.Cat.encI p_l))), (7, (vi ((p_l.length : Int)))), (8, (vi s1.1))]) (H' := [(15, .own 5 1 (List.map cU8 s1.2))]) ⟨Le.refl _, Le.refl _, Le.refl _, Le.refl _, Le.refl _, True.intro⟩ ⟨⟨_, rfl, .refl _⟩, True.intro⟩ rfl) ?_
      refine Ok.region Tryz.tok ?_
      obtain ⟨x2, hx2, hB1⟩ := bindS hB1
      refine CallOk.call (w_pack_Int hx2) (LeL.refl _) ?_
      obtain ⟨hc1, hB1⟩ := chk_some hB1
      refine ⟨rowsLen_map (f := cU8) (n := 1) (fun _ => rfl) x2, app_b2 (f := cU8) (l := s1.2) (l' := x2) hc1, _, (List.map_append (f := cU8) (l₁ := s1.2) (l₂ := x2)).symm, ?_⟩
      refine Ok.wk (Wk.tab (L := [(3, (.o 15)), (6, (.s (List.map Go.Cat.encI p_l))), (7, (vi ((p_l.length : Int)))), (8, (vi s1.1))]) (H' := [(15, .own 5 1 (List.map cU8 ((s1.2 ++ x2))))]) ⟨Le.refl _, Le.refl _, Le.refl _, Le.refl _, True.intro⟩ ⟨⟨_, rfl, .refl _⟩, True.intro⟩ rfl) ?_
      refine Ok.region Tryz.tok ?_
      obtain ⟨hc2, hB1⟩ := chk_some hB1
      refine (Or.inl ⟨hc2, ?_⟩)
      exact ⟨_, (Option.some.inj hB1).symm, Wk.tab ⟨Le.refl _, Le.refl _, Le.refl _, Le.refl _, True.intro⟩ ⟨⟨_, rfl, .refl _⟩, True.intro⟩ rfl⟩
    · refine Ok.exit ?_
      have hB1 := out_ret hB1 hy1
      cases hB1
      exact Wk.tab ⟨Le.refl _, True.intro⟩ ⟨⟨_, rfl, .refl _⟩, True.intro⟩ rfl
  refine Ok.seq ?_
  refine Ok.region Tryz.tok ?_
  refine Ok.wk (Wk.tab (L := [(2, (.o 15))]) (H' := [(15, .own 5 1 (List.map cU8 v1))]) ⟨Le.refl _, True.intro⟩ ⟨⟨_, rfl, .refl _⟩, True.intro⟩ rfl) ?_
  refine Ok.ret ?_
  cases h
  exact (.inr ⟨_, rfl, rfl⟩)
theorem w_pack_numbers {p_l : List Int} {r : (List UInt8)} (h : pack_numbers p_l = some r) : Pure Tryz.prog 95 [(.s (List.map Go.Cat.encI p_l))] (.s (List.map cU8 r)) := (wo_pack_numbers h).pure

theorem wo_pack_Ints {p_l : List Int} {r : (List UInt8)} (h : pack_Ints p_l = some r) : POwn Tryz.prog 70 [(.s (List.map Go.Cat.encI p_l))] 5 1 (List.map cU8 r) := by
  refine pown_of_ok (n := 9) (c := (Tryz.f70.body.getD .skip)) Tryz.tok Tryz.func70 (by kernel_rfl) rfl rfl (Nat.le_of_ble_eq_true rfl) ?_
  unfold pack_Ints at h
  refine Ok.wk (Wk.tab (L := [(0, (.s (List.map Go.Cat.encI p_l)))]) (H' := []) ⟨Le.refl _, True.intro⟩ True.intro rfl) ?_
  refine Ok.seq ?_
  refine Ok.region Tryz.tok ?_
  refine Ok.wk (Wk.tab (L := [(0, (.s (List.map Go.Cat.encI p_l)))]) (H' := []) ⟨Le.refl _, True.intro⟩ True.intro rfl) ?_
  refine Ok.seq ?_
  refine Ok.region Tryz.tok ?_
  obtain ⟨x1, hx1, h⟩ := bindS h
  refine ⟨_, List.length_map _, fun _ => ?_⟩
  refine CallOk.own (D := 5) (wo_pack_Int hx1) (LeL.refl _) rfl ?_
  obtain ⟨x2, hx2, h⟩ := bindS h
  refine CallOk.call (w_pack_numbers hx2) (LeL.refl _) ?_
  obtain ⟨hc1, h⟩ := chk_some h
  refine ⟨rowsLen_map (f := cU8) (n := 1) (fun _ => rfl) x2, app_b2 (f := cU8) (l := x1) (l' := x2) hc1, _, (List.map_append (f := cU8) (l₁ := x1) (l₂ := x2)).symm, ?_⟩
  refine Ok.wk (Wk.tab (L := [(2, (.o 5))]) (H' := [(5, .own 5 1 (List.map cU8 ((x1 ++ x2))))]) ⟨Le.refl _, True.intro⟩ ⟨⟨_, rfl, .refl _⟩, True.intro⟩ rfl) ?_
  refine Ok.ret ?_
  cases h
  exact (.inr ⟨_, rfl, rfl⟩)
theorem w_pack_Ints {p_l : List Int} {r : (List UInt8)} (h : pack_Ints p_l = some r) : Pure Tryz.prog 70 [(.s (List.map Go.Cat.encI p_l))] (.s (List.map cU8 r)) := (wo_pack_Ints h).pure

theorem wo_slices_Grow_byte_byte__nil {p_n : Int} {r : (List UInt8)} (h : slices_Grow_byte_byte__nil p_n = some r) : POwn Tryz.prog 94 [(.v (.slice none 0 0)), (vi p_n)] 5 1 (List.map cU8 r) := by
  refine pown_of_ok (n := 27) (c := (Tryz.f94.body.getD .skip)) Tryz.tok Tryz.func94 (by kernel_rfl) rfl rfl (Nat.le_of_ble_eq_true rfl) ?_
  unfold slices_Grow_byte_byte__nil at h
  refine Ok.wk (Wk.tab (L := [(0, (.v (.slice none 0 0))), (1, (vi p_n))]) (H' := []) ⟨Le.refl _, Le.refl _, True.intro⟩ True.intro rfl) ?_
  refine Ok.seq ?_
  refine Ok.region Tryz.tok ?_
  refine Ok.wk (Wk.tab (L := [(0, (.v (.slice none 0 0))), (1, (vi p_n))]) (H' := []) ⟨Le.refl _, Le.refl _, True.intro⟩ True.intro rfl) ?_
  obtain ⟨v1, hv1, h⟩ := bindS h
  refine Ok.seqw ⟨Cat.tab [(0, (.v (.slice none 0 0))), (1, (vi p_n))], []⟩ ?_ ?_
  · refine Ok.seq ?_
    refine Ok.region Tryz.tok ?_
    refine Ok.wk (Wk.tab (L := [(0, (.v (.slice none 0 0))), (1, (vi p_n)), (6, (vb ((decide (p_n < 0)))))]) (H' := []) ⟨Le.refl _, Le.refl _, Le.refl _, True.intro⟩ True.intro rfl) ?_
    refine Ok.cond (d := 6) (b := (decide (p_n < 0))) rfl hv1 (fun hb hv1 => ?_) fun hb hv1 => ?_
    · cases hv1
    · refine Ok.skip ?_
      cases hv1
      exact Wk.tab ⟨Le.refl _, Le.refl _, True.intro⟩ True.intro rfl
  obtain ⟨v2, hv2, h⟩ := bindS h
  refine Ok.seqw ⟨Cat.tab [(0, (.o 22))], [(22, .own 5 1 (List.map cU8 v2))]⟩ ?_ ?_
  · refine Ok.seq ?_
    refine Ok.region Tryz.tok ?_
    obtain ⟨hc1, hv2⟩ := chk_some hv2
    refine (Or.inl ⟨by decide, (Or.inl ⟨hc1, ?_⟩)⟩)
    refine Ok.wk (Wk.tab (L := [(0, (.v (.slice none 0 0))), (1, (vi ((p_n - 0))))]) (H' := []) ⟨Le.refl _, Le.refl _, True.intro⟩ True.intro rfl) ?_
    refine Ok.seq ?_
    refine Ok.region Tryz.tok ?_
    refine Ok.wk (Wk.tab (L := [(0, (.v (.slice none 0 0))), (1, (vi ((p_n - 0)))), (16, (vb ((decide ((p_n - 0) > 0)))))]) (H' := []) ⟨Le.refl _, Le.refl _, Le.refl _, True.intro⟩ True.intro rfl) ?_
    refine Ok.cond (d := 16) (b := (decide ((p_n - 0) > 0))) rfl hv2 (fun hb hv2 => ?_) fun hb hv2 => ?_
    · refine Ok.region Tryz.tok ?_
      obtain ⟨hc2, hv2⟩ := chk_some hv2
      obtain ⟨hc3, hv2⟩ := chk_some hv2
      refine ⟨0, rfl, ⟨Nat.le_refl _, Nat.le_refl _, ⟨_, mk_nat hc2, hc2.2, _, (List.map_replicate (f := cU8) (a := (0 : UInt8))).symm, ⟨_, sl_nat hc3.1, sl_own hc3, _, (List.map_take (f := cU8)).symm, ?_⟩⟩⟩⟩
      cases hv2
      exact Wk.tab ⟨Le.refl _, True.intro⟩ ⟨⟨_, rfl, .refl _⟩, True.intro⟩ rfl
    · refine Ok.skip ?_
      cases hv2
      exact (Wk.own0 (t := 0) (id := 22) (E := 5) (K := 1) rfl rfl).trans (Wk.tab ⟨Le.refl _, True.intro⟩ ⟨⟨_, rfl, .refl _⟩, True.intro⟩ rfl)
  refine Ok.seq ?_
  refine Ok.region Tryz.tok ?_
  refine Ok.wk (Wk.tab (L := [(4, (.o 22))]) (H' := [(22, .own 5 1 (List.map cU8 v2))]) ⟨Le.refl _, True.intro⟩ ⟨⟨_, rfl, .refl _⟩, True.intro⟩ rfl) ?_
  refine Ok.ret ?_
  cases h
  exact (.inr ⟨_, rfl, rfl⟩)
theorem w_slices_Grow_byte_byte__nil {p_n : Int} {r : (List UInt8)} (h : slices_Grow_byte_byte__nil p_n = some r) : Pure Tryz.prog 94 [(.v (.slice none 0 0)), (vi p_n)] (.s (List.map cU8 r)) := (wo_slices_Grow_byte_byte__nil h).pure

theorem wo_slices_Concat_byte_byte {p_slices : List (List UInt8)} {r : (List UInt8)} (h : slices_Concat_byte_byte p_slices = some r) : POwn Tryz.prog 67 [(.s (List.map cL_cU8 p_slices))] 5 1 (List.map cU8 r) := by
  refine pown_of_ok (n := 36) (c := (Tryz.f67.body.getD .skip)) Tryz.tok Tryz.func67 (by kernel_rfl) rfl rfl (Nat.le_of_ble_eq_true rfl) ?_
  unfold slices_Concat_byte_byte at h
  refine Ok.wk (Wk.tab (L := [(0, (.s (List.map cL_cU8 p_slices)))]) (H' := []) ⟨Le.refl _, True.intro⟩ True.intro rfl) ?_
  refine Ok.seq ?_
  refine Ok.region Tryz.tok ?_
  refine Ok.wk (Wk.tab (L := [(0, (.s (List.map cL_cU8 p_slices)))]) (H' := []) ⟨Le.refl _, True.intro⟩ True.intro rfl) ?_
  refine Ok.seq ?_
  refine Ok.region Tryz.tok ?_
  refine Ok.wk (Wk.tab (L := [(0, (.s (List.map cL_cU8 p_slices))), (3, (vi (0)))]) (H' := []) ⟨Le.refl _, Le.refl _, True.intro⟩ True.intro rfl) ?_
  obtain ⟨v1, hv1, h⟩ := bindS h
  refine Ok.seqw ⟨Cat.tab [(0, (.s (List.map cL_cU8 p_slices))), (3, (vi v1))], []⟩ ?_ ?_
  · refine Ok.seq ?_
    refine Ok.region Tryz.tok ?_
    refine ⟨_, List.length_map _, fun _ => ?_⟩
    refine Ok.wk (Wk.tab (L := [(0, (.s (List.map cL_cU8 p_slices))), (3, (vi (0))), (9, (.s (List.map cL_cU8 p_slices))), (10, (vi ((p_slices.length : Int)))), (11, (vi (0)))]) (H' := []) ⟨Le.refl _, Le.refl _, Le.refl _, Le.refl _, Le.refl _, True.intro⟩ True.intro rfl) ?_
    refine Ok.block ?_
    refine Ok.loop (fun (s1 : Int × Int) => ⟨Cat.tab [(0, (.s (List.map cL_cU8 p_slices))), (3, (vi s1.1)), (9, (.s (List.map cL_cU8 p_slices))), (10, (vi ((p_slices.length : Int)))), (11, (vi s1.2))], []⟩) (slices_Concat_byte_byte_B1 p_slices) (s0 := (0, 0)) hv1 (Wk.tab ⟨Le.refl _, Le.refl _, Le.refl _, Le.refl _, Le.refl _, True.intro⟩ True.intro rfl) ?_
    intro s1 y1 hB1 hy1
    unfold slices_Concat_byte_byte_B1 at hB1
    refine Ok.seq ?_
    refine Ok.region Tryz.tok ?_
    refine Ok.wk (Wk.tab (L := [(0, (.s (List.map cL_cU8 p_slices))), (3, (vi s1.1)), (9, (.s (List.map cL_cU8 p_slices))), (10, (vi ((p_slices.length : Int)))), (11, (vi s1.2)), (12, (vb ((decide (s1.2 < (p_slices.length : Int))))))]) (H' := []) ⟨Le.refl _, Le.refl _, Le.refl _, Le.refl _, Le.refl _, Le.refl _, True.intro⟩ True.intro rfl) ?_
    refine Ok.seq ?_
    refine Ok.cond (d := 12) (b := (decide (s1.2 < (p_slices.length : Int)))) rfl hB1 (fun hb hB1 => ?_) fun hb hB1 => ?_
    · refine Ok.skip ?_
      obtain ⟨v2, hv2, hB1⟩ := bindS hB1
      refine Ok.seqw ⟨Cat.tab [(0, (.s (List.map cL_cU8 p_slices))), (3, (vi v2)), (9, (.s (List.map cL_cU8 p_slices))), (10, (vi ((p_slices.length : Int)))), (11, (vi s1.2))], []⟩ ?_ ?_
      · refine Ok.block ?_
        refine Ok.seq ?_
        refine Ok.region Tryz.tok ?_
        obtain ⟨x1, hx1, hv2⟩ := bindS hv2
        refine ⟨_, idx_nat hx1, _, idx_row hx1, ⟨_, rfl, ?_⟩⟩
        refine Ok.wk (Wk.tab (L := [(0, (.s (List.map cL_cU8 p_slices))), (3, (vi s1.1)), (5, (.s (List.map cU8 x1))), (9, (.s (List.map cL_cU8 p_slices))), (10, (vi ((p_slices.length : Int)))), (11, (vi s1.2))]) (H' := []) ⟨Le.refl _, Le.refl _, Le.refl _, Le.refl _, Le.refl _, Le.refl _, True.intro⟩ True.intro rfl) ?_
        refine Ok.seq ?_
        refine Ok.region Tryz.tok ?_
        obtain ⟨hc1, hv2⟩ := chk_some hv2
        refine ⟨_, List.length_map _, fun _ => (Or.inl ⟨hc1, ?_⟩)⟩
        refine Ok.wk (Wk.tab (L := [(0, (.s (List.map cL_cU8 p_slices))), (3, (vi ((s1.1 + (x1.length : Int))))), (9, (.s (List.map cL_cU8 p_slices))), (10, (vi ((p_slices.length : Int)))), (11, (vi s1.2))]) (H' := []) ⟨Le.refl _, Le.refl _, Le.refl _, Le.refl _, Le.refl _, True.intro⟩ True.intro rfl) ?_
        refine Ok.seq ?_
        refine Ok.region Tryz.tok ?_
        refine Ok.wk (Wk.tab (L := [(0, (.s (List.map cL_cU8 p_slices))), (3, (vi ((s1.1 + (x1.length : Int))))), (9, (.s (List.map cL_cU8 p_slices))), (10, (vi ((p_slices.length : Int)))), (11, (vi s1.2)), (20, (vb ((decide ((s1.1 + (x1.length : Int)) < 0)))))]) (H' := []) ⟨Le.refl _, Le.refl _, Le.refl _, Le.refl _, Le.refl _, Le.refl _, True.intro⟩ True.intro rfl) ?_
        refine Ok.cond (d := 20) (b := (decide ((s1.1 + (x1.length : Int)) < 0))) rfl hv2 (fun hb hv2 => ?_) fun hb hv2 => ?_
        · cases hv2
        · refine Ok.skip ?_
          cases hv2
          exact Wk.tab ⟨Le.refl _, Le.refl _, Le.refl _, Le.refl _, Le.refl _, True.intro⟩ True.intro rfl
      refine Ok.region Tryz.tok ?_
      obtain ⟨hc2, hB1⟩ := chk_some hB1
      refine (Or.inl ⟨hc2, ?_⟩)
      exact ⟨_, (Option.some.inj hB1).symm, Wk.tab ⟨Le.refl _, Le.refl _, Le.refl _, Le.refl _, Le.refl _, True.intro⟩ True.intro rfl⟩
    · refine Ok.exit ?_
      have hB1 := out_ret hB1 hy1
      cases hB1
      exact Wk.tab ⟨Le.refl _, Le.refl _, True.intro⟩ True.intro rfl
  refine Ok.seq ?_
  refine Ok.region Tryz.tok ?_
  obtain ⟨x2, hx2, h⟩ := bindS h
  refine CallOk.own (D := 24) (wo_slices_Grow_byte_byte__nil hx2) (LeL.refl _) rfl ?_
  refine Ok.wk (Wk.tab (L := [(0, (.s (List.map cL_cU8 p_slices))), (6, (.o 24))]) (H' := [(24, .own 5 1 (List.map cU8 x2))]) ⟨Le.refl _, Le.refl _, True.intro⟩ ⟨⟨_, rfl, .refl _⟩, True.intro⟩ rfl) ?_
  obtain ⟨v3, hv3, h⟩ := bindS h
  refine Ok.seqw ⟨Cat.tab [(6, (.o 24))], [(24, .own 5 1 (List.map cU8 v3))]⟩ ?_ ?_
  · refine Ok.seq ?_
    refine Ok.region Tryz.tok ?_
    refine ⟨_, List.length_map _, fun _ => ?_⟩
    refine Ok.wk (Wk.tab (L := [(6, (.o 24)), (25, (.s (List.map cL_cU8 p_slices))), (26, (vi ((p_slices.length : Int)))), (27, (vi (0)))]) (H' := [(24, .own 5 1 (List.map cU8 x2))]) ⟨Le.refl _, Le.refl _, Le.refl _, Le.refl _, True.intro⟩ ⟨⟨_, rfl, .refl _⟩, True.intro⟩ rfl) ?_
    refine Ok.block ?_
    refine Ok.loop (fun (s2 : Int × (List UInt8)) => ⟨Cat.tab [(6, (.o 24)), (25, (.s (List.map cL_cU8 p_slices))), (26, (vi ((p_slices.length : Int)))), (27, (vi s2.1))], [(24, .own 5 1 (List.map cU8 s2.2))]⟩) (slices_Concat_byte_byte_B2 p_slices) (s0 := (0, x2)) hv3 (Wk.tab ⟨Le.refl _, Le.refl _, Le.refl _, Le.refl _, True.intro⟩ ⟨⟨_, rfl, .refl _⟩, True.intro⟩ rfl) ?_
    intro s2 y2 hB2 hy2
    unfold slices_Concat_byte_byte_B2 at hB2
    refine Ok.seq ?_
    refine Ok.region Tryz.tok ?_
    refine Ok.wk (Wk.tab (L := [(6, (.o 24)), (25, (.s (List.map cL_cU8 p_slices))), (26, (vi ((p_slices.length : Int)))), (27, (vi s2.1)), (28, (vb ((decide (s2.1 < (p_slices.length : Int))))))]) (H' := [(24, .own 5 1 (List.map cU8 s2.2))]) ⟨Le.refl _, Le.refl _, Le.refl _, Le.refl _, Le.refl _, True.intro⟩ ⟨⟨_, rfl, .refl _⟩, True.intro⟩ rfl) ?_
    refine Ok.seq ?_
    refine Ok.cond (d := 28) (b := (decide (s2.1 < (p_slices.length : Int)))) rfl hB2 (fun hb hB2 => ?_) fun hb hB2 => ?_
    · refine Ok.skip ?_
      refine Ok.seq ?_
      refine Ok.block ?_
      refine Ok.seq ?_
      refine Ok.region Tryz.tok ?_
      obtain ⟨x3, hx3, hB2⟩ := bindS hB2
      refine ⟨_, idx_nat hx3, _, idx_row hx3, ⟨_, rfl, ?_⟩⟩
      refine Ok.wk (Wk.tab (L := [(6, (.o 24)), (8, (.s (List.map cU8 x3))), (25, (.s (List.map cL_cU8 p_slices))), (26, (vi ((p_slices.length : Int)))), (27, (vi s2.1))]) (H' := [(24, .own 5 1 (List.map cU8 s2.2))]) ⟨Le.refl _, Le.refl _, Le.refl _, Le.refl _, Le.refl _, True.intro⟩ ⟨⟨_, rfl, .refl _⟩, True.intro⟩ rfl) ?_
      refine Ok.region Tryz.tok ?_
      obtain ⟨hc3, hB2⟩ := chk_some hB2
      refine ⟨rowsLen_map (f := cU8) (n := 1) (fun _ => rfl) x3, app_b2 (f := cU8) (l := s2.2) (l' := x3) hc3, _, (List.map_append (f := cU8) (l₁ := s2.2) (l₂ := x3)).symm, ?_⟩
      refine Ok.wk (Wk.tab (L := [(6, (.o 24)), (25, (.s (List.map cL_cU8 p_slices))), (26, (vi ((p_slices.length : Int)))), (27, (vi s2.1))]) (H' := [(24, .own 5 1 (List.map cU8 ((s2.2 ++ x3))))]) ⟨Le.refl _, Le.refl _, Le.refl _, Le.refl _, True.intro⟩ ⟨⟨_, rfl, .refl _⟩, True.intro⟩ rfl) ?_
      refine Ok.region Tryz.tok ?_
      obtain ⟨hc4, hB2⟩ := chk_some hB2
      refine (Or.inl ⟨hc4, ?_⟩)
      exact ⟨_, (Option.some.inj hB2).symm, Wk.tab ⟨Le.refl _, Le.refl _, Le.refl _, Le.refl _, True.intro⟩ ⟨⟨_, rfl, .refl _⟩, True.intro⟩ rfl⟩
    · refine Ok.exit ?_
      have hB2 := out_ret hB2 hy2
      cases hB2
      exact Wk.tab ⟨Le.refl _, True.intro⟩ ⟨⟨_, rfl, .refl _⟩, True.intro⟩ rfl
  refine Ok.seq ?_
  refine Ok.region Tryz.tok ?_
  refine Ok.wk (Wk.tab (L := [(2, (.o 24))]) (H' := [(24, .own 5 1 (List.map cU8 v3))]) ⟨Le.refl _, True.intro⟩ ⟨⟨_, rfl, .refl _⟩, True.intro⟩ rfl) ?_
  refine Ok.ret ?_
  cases h
  exact (.inr ⟨_, rfl, rfl⟩)
theorem w_slices_Concat_byte_byte {p_slices : List (List UInt8)} {r : (List UInt8)} (h : slices_Concat_byte_byte p_slices = some r) : Pure Tryz.prog 67 [(.s (List.map cL_cU8 p_slices))] (.s (List.map cU8 r)) := (wo_slices_Concat_byte_byte h).pure

theorem w_sum_Of {p_b : List UInt8} {r : Int} (h : sum_Of p_b = some r) : Pure Tryz.prog 71 [(.s (List.map cU8 p_b))] (vi r) := by
  refine pure_of_ok (n := 6) (c := (Tryz.f71.body.getD .skip)) Tryz.tok Tryz.func71 (by kernel_rfl) rfl rfl (Nat.le_of_ble_eq_true rfl) ?_
  unfold sum_Of at h
  refine Ok.wk (Wk.tab (L := [(0, (.s (List.map cU8 p_b)))]) (H' := []) ⟨Le.refl _, True.intro⟩ True.intro rfl) ?_
  refine Ok.seq ?_
  refine Ok.region Tryz.tok ?_
  refine Ok.wk (Wk.tab (L := [(0, (.s (List.map cU8 p_b)))]) (H' := []) ⟨Le.refl _, True.intro⟩ True.intro rfl) ?_
  refine Ok.seq ?_
  refine Ok.region Tryz.tok ?_
  obtain ⟨x1, hx1, h⟩ := bindS h
  refine CallOk.call (w_sum_half hx1) (LeL.refl _) ?_
  obtain ⟨x2, hx2, h⟩ := bindS h
  refine CallOk.call (w_sum_of hx2) (LeL.refl _) ?_
  refine Ok.wk (Wk.tab (L := [(2, (vi x2))]) (H' := []) ⟨Le.refl _, True.intro⟩ True.intro rfl) ?_
  refine Ok.ret ?_
  cases h
  exact Fz.v

theorem wo_chunk_page {p_c : api_Copy} {r : (List UInt8)} (h : chunk_page p_c = some r) : POwn Tryz.prog 40 [(.a [(vi p_c.Id), (vi p_c.Ver), (.s (List.map cU8 p_c.Data)), (.s (List.map Go.Cat.encI p_c.Sums))])] 5 1 (List.map cU8 r) := by
  refine pown_of_ok (n := 36) (c := (Tryz.f40.body.getD .skip)) Tryz.tok Tryz.func40 (by kernel_rfl) rfl rfl (Nat.le_of_ble_eq_true rfl) ?_
  unfold chunk_page at h
  refine Ok.wk (Wk.tab (L := [(0, (.a [(vi p_c.Id), (vi p_c.Ver), (.s (List.map cU8 p_c.Data)), (.s (List.map Go.Cat.encI p_c.Sums))]))]) (H' := []) ⟨Le.refl _, True.intro⟩ True.intro rfl) ?_
  refine Ok.seq ?_
  refine Ok.region Tryz.tok ?_
  refine Ok.wk (Wk.tab (L := [(1, (.b 1 0))]) (H' := [(1, .box [(vi p_c.Id), (vi p_c.Ver), (.s (List.map cU8 p_c.Data)), (.s (List.map Go.Cat.encI p_c.Sums))])]) ⟨Le.refl _, True.intro⟩ ⟨⟨_, rfl, .refl _⟩, True.intro⟩ rfl) ?_
  refine Ok.seq ?_
  refine Ok.draw (m := 14) (MD := ⟨[]⟩) (CH := ⟨[]⟩) Tryz.tok Tryz.mixed (by kernel_rfl) ?_
  obtain ⟨x1, hx1, h⟩ := bindS h
  obtain ⟨x2, hx2, h⟩ := bindS h
  obtain ⟨x3, hx3, h⟩ := bindS h
  obtain ⟨x4, hx4, h⟩ := bindS h
  obtain ⟨x5, hx5, h⟩ := bindS h
  refine ⟨_, rfl, ⟨_, ⟨_, rfl, rfl⟩, ⟨_, ⟨_, .of_pure (w_pack_Int hx1) (LeL.refl _), rfl⟩, ⟨_, rfl, ⟨_, ⟨_, rfl, rfl⟩, ⟨_, ⟨_, .of_pure (w_pack_Int hx2) (LeL.refl _), rfl⟩, ⟨_, rfl, ⟨_, ⟨_, rfl, rfl⟩, ⟨_, ⟨_, rfl, rfl⟩, ⟨_, ⟨_, .of_pure (w_pack_Str hx3) (LeL.refl _), rfl⟩, ⟨_, rfl, ⟨_, ⟨_, rfl, rfl⟩, ⟨_, ⟨_, .of_pure (w_pack_Ints hx4) (LeL.refl _), rfl⟩, ⟨_, rfl, ⟨True.intro, ?_⟩⟩⟩⟩⟩⟩⟩⟩⟩⟩⟩⟩⟩⟩⟩
  refine CallOk.own (D := 20) (wo_slices_Concat_byte_byte hx5) (LeL.refl _) rfl ?_
  refine Ok.wk (Wk.tab (L := [(3, (.o 20))]) (H' := [(20, .own 5 1 (List.map cU8 x5))]) ⟨Le.refl _, True.intro⟩ ⟨⟨_, rfl, .refl _⟩, True.intro⟩ rfl) ?_
  refine Ok.seq ?_
  refine Ok.region Tryz.tok ?_
  obtain ⟨x6, hx6, h⟩ := bindS h
  refine CallOk.borrow (w_sum_Of hx6) (.cons (Fz.o rfl) (.nil)) rfl ?_
  refine Ok.wk (Wk.tab (L := [(3, (.o 20)), (4, (vi x6))]) (H' := [(20, .own 5 1 (List.map cU8 x5))]) ⟨Le.refl _, Le.refl _, True.intro⟩ ⟨⟨_, rfl, .refl _⟩, True.intro⟩ rfl) ?_
  obtain ⟨v1, hv1, h⟩ := bindS h
  refine Ok.seqw ⟨Cat.tab [(3, (.o 20))], [(20, .own 5 1 (List.map cU8 v1))]⟩ ?_ ?_
  · refine Ok.seq ?_
    refine Ok.region Tryz.tok ?_
    refine Ok.wk (Wk.tab (L := [(3, (.o 20)), (4, (vi x6)), (23, (vi (0)))]) (H' := [(20, .own 5 1 (List.map cU8 x5))]) ⟨Le.refl _, Le.refl _, Le.refl _, True.intro⟩ ⟨⟨_, rfl, .refl _⟩, True.intro⟩ rfl) ?_
    refine Ok.block ?_
    refine Ok.loop (fun (s1 : Int × (List UInt8)) => ⟨Cat.tab [(3, (.o 20)), (4, (vi x6)), (23, (vi s1.1))], [(20, .own 5 1 (List.map cU8 s1.2))]⟩) (chunk_page_B1 x6) (s0 := (0, x5)) hv1 (Wk.tab ⟨Le.refl _, Le.refl _, Le.refl _, True.intro⟩ ⟨⟨_, rfl, .refl _⟩, True.intro⟩ rfl) ?_
    intro s1 y1 hB1 hy1
    unfold chunk_page_B1 at hB1
    refine Ok.seq ?_
    refine Ok.region Tryz.tok ?_
    refine Ok.wk (Wk.tab (L := [(3, (.o 20)), (4, (vi x6)), (23, (vi s1.1)), (24, (vb ((decide (s1.1 < 4)))))]) (H' := [(20, .own 5 1 (List.map cU8 s1.2))]) ⟨Le.refl _, Le.refl _, Le.refl _, Le.refl _, True.intro⟩ ⟨⟨_, rfl, .refl _⟩, True.intro⟩ rfl) ?_
    refine Ok.seq ?_
    refine Ok.cond (d := 24) (b := (decide (s1.1 < 4))) rfl hB1 (fun hb hB1 => ?_) fun hb hB1 => ?_
    · refine Ok.skip ?_
      refine Ok.seq ?_
      refine Ok.block ?_
      refine Ok.seq ?_
      refine Ok.region Tryz.tok ?_
      refine Ok.wk (Wk.tab (L := [(3, (.o 20)), (4, (vi x6)), (5, (vi s1.1)), (23, (vi s1.1))]) (H' := [(20, .own 5 1 (List.map cU8 s1.2))]) ⟨Le.refl _, Le.refl _, Le.refl _, Le.refl _, True.intro⟩ ⟨⟨_, rfl, .refl _⟩, True.intro⟩ rfl) ?_
      refine Ok.region Tryz.tok ?_
      obtain ⟨hc1, hB1⟩ := chk_some hB1
      obtain ⟨hc2, hB1⟩ := chk_some hB1
      obtain ⟨hc3, hB1⟩ := chk_some hB1
      refine (Or.inl ⟨hc1, ⟨hc2, _, rfl, ⟨_, (toU8_wrap _), Or.inl ⟨rowsLen_map (f := cU8) (n := 1) (fun _ => rfl) ([(toU8 ((shrK .i64 x6 ((8 * s1.1)))))]), app_b2 (f := cU8) (l := s1.2) (l' := ([(toU8 ((shrK .i64 x6 ((8 * s1.1)))))])) hc3, _, (List.map_append (f := cU8) (l₁ := s1.2) (l₂ := ([(toU8 ((shrK .i64 x6 ((8 * s1.1)))))]))).symm, ?_⟩⟩⟩⟩)
      refine Ok.wk (Wk.tab (L := [(3, (.o 20)), (4, (vi x6)), (23, (vi s1.1))]) (H' := [(20, .own 5 1 (List.map cU8 ((s1.2 ++ [(toU8 ((shrK .i64 x6 ((8 * s1.1)))))]))))]) ⟨Le.refl _, Le.refl _, Le.refl _, True.intro⟩ ⟨⟨_, rfl, .refl _⟩, True.intro⟩ rfl) ?_
      refine Ok.region Tryz.tok ?_
      obtain ⟨hc4, hB1⟩ := chk_some hB1
      refine (Or.inl ⟨hc4, ?_⟩)
      exact ⟨_, (Option.some.inj hB1).symm, Wk.tab ⟨Le.refl _, Le.refl _, Le.refl _, True.intro⟩ ⟨⟨_, rfl, .refl _⟩, True.intro⟩ rfl⟩
    · refine Ok.exit ?_
      have hB1 := out_ret hB1 hy1
      cases hB1
      exact Wk.tab ⟨Le.refl _, True.intro⟩ ⟨⟨_, rfl, .refl _⟩, True.intro⟩ rfl
  refine Ok.seq ?_
  refine Ok.region Tryz.tok ?_
  refine Ok.wk (Wk.tab (L := [(2, (.o 20))]) (H' := [(20, .own 5 1 (List.map cU8 v1))]) ⟨Le.refl _, True.intro⟩ ⟨⟨_, rfl, .refl _⟩, True.intro⟩ rfl) ?_
  refine Ok.ret ?_
  cases h
  exact (.inr ⟨_, rfl, rfl⟩)
theorem w_chunk_page {p_c : api_Copy} {r : (List UInt8)} (h : chunk_page p_c = some r) : Pure Tryz.prog 40 [(.a [(vi p_c.Id), (vi p_c.Ver), (.s (List.map cU8 p_c.Data)), (.s (List.map Go.Cat.encI p_c.Sums))])] (.s (List.map cU8 r)) := (wo_chunk_page h).pure

theorem w_disk_may {p_at : Int} {p_data : List UInt8} {r : Bool} (h : disk_may p_at p_data = some r) : Pure Tryz.prog 83 [(vi p_at), (.s (List.map cU8 p_data))] (vb r) := by
  refine pure_of_ok (n := 16) (c := (Tryz.f83.body.getD .skip)) Tryz.tok Tryz.func83 (by kernel_rfl) rfl rfl (Nat.le_of_ble_eq_true rfl) ?_
  unfold disk_may at h
  refine Ok.wk (Wk.tab (L := [(0, (vi p_at)), (1, (.s (List.map cU8 p_data)))]) (H' := []) ⟨Le.refl _, Le.refl _, True.intro⟩ True.intro rfl) ?_
  refine Ok.seq ?_
  refine Ok.region Tryz.tok ?_
  refine Ok.wk (Wk.tab (L := [(0, (vi p_at)), (1, (.s (List.map cU8 p_data)))]) (H' := []) ⟨Le.refl _, Le.refl _, True.intro⟩ True.intro rfl) ?_
  obtain ⟨v1, hv1, h⟩ := bindS h
  refine Ok.seqw ⟨Cat.tab [(4, (vb v1))], []⟩ ?_ ?_
  · refine Ok.region Tryz.tok ?_
    obtain ⟨c1, hg1, hv1⟩ := bindS hv1
    refine Br.ite hg1 (fun hb hg1 => ?_) fun hb hg1 => ?_
    · cases hg1
      obtain ⟨c2, hg2, hv1⟩ := bindS hv1
      refine Br.ite hg2 (fun hb hg2 => ?_) fun hb hg2 => ?_
      · refine ⟨_, List.length_map _, fun _ => ?_⟩
        cases hg2
        cases hv1
        exact Wk.tab ⟨Le.refl _, True.intro⟩ True.intro rfl
      · cases hg2
        cases hv1
        exact Wk.tab ⟨Le.refl _, True.intro⟩ True.intro rfl
    · cases hg1
      obtain ⟨c2, hg3, hv1⟩ := bindS hv1
      replace hg3 := iteF hg3
      cases hg3
      cases hv1
      exact Wk.tab ⟨Le.refl _, True.intro⟩ True.intro rfl
  refine Ok.ret ?_
  cases h
  exact Fz.v

theorem wo_slices_Clone_api_Page_api_Page {p_s : List api_Page} {r : (List api_Page)} (h : slices_Clone_api_Page_api_Page p_s = some r) : POwn Tryz.prog 98 [(.s (List.map c_api_Page p_s))] 120 2 (List.map c_api_Page r) := by
  refine pown_of_ok (n := 8) (c := (Tryz.f98.body.getD .skip)) Tryz.tok Tryz.func98 (by kernel_rfl) rfl rfl (Nat.le_of_ble_eq_true rfl) ?_
  unfold slices_Clone_api_Page_api_Page at h
  refine Ok.wk (Wk.tab (L := [(0, (.s (List.map c_api_Page p_s)))]) (H' := []) ⟨Le.refl _, True.intro⟩ True.intro rfl) ?_
  refine Ok.seq ?_
  refine Ok.region Tryz.tok ?_
  refine Ok.wk (Wk.tab (L := [(0, (.s (List.map c_api_Page p_s)))]) (H' := []) ⟨Le.refl _, True.intro⟩ True.intro rfl) ?_
  refine Ok.seq ?_
  refine Ok.seq ?_
  refine Ok.region Tryz.tok ?_
  intro b1 hb1
  have h := anyOf_some h b1 (fun e => List.map_eq_nil_iff.1 (hb1 e))
  refine Ok.wk (Wk.tab (L := [(0, (.s (List.map c_api_Page p_s))), (4, (vb b1))]) (H' := []) ⟨Le.refl _, Le.refl _, True.intro⟩ True.intro rfl) ?_
  refine Ok.cond (d := 4) (b := b1) rfl h (fun hb h => ?_) fun hb h => ?_
  · refine Ok.seq ?_
    refine Ok.region Tryz.tok ?_
    refine Ok.wk (Wk.tab (L := [(2, (.v (.slice none 0 0)))]) (H' := []) ⟨Le.refl _, True.intro⟩ True.intro rfl) ?_
    refine Ok.ret ?_
    cases h
    exact (.inl ⟨rfl, rfl⟩)
  · refine Ok.skip ?_
    refine Ok.seq ?_
    refine Ok.region Tryz.tok ?_
    obtain ⟨hc1, h⟩ := chk_some h
    refine Or.inr ⟨rowsLen_map (f := c_api_Page) (n := 2) (fun _ => rfl) p_s, app_b2 (f := c_api_Page) (l := (([] : List api_Page))) (l' := p_s) hc1, _, (List.map_append (f := c_api_Page) (l₁ := (([] : List api_Page))) (l₂ := p_s)).symm, ?_⟩
    refine Ok.wk (Wk.tab (L := [(2, (.o 5))]) (H' := [(5, .own 120 2 (List.map c_api_Page ((([] : List api_Page) ++ p_s))))]) ⟨Le.refl _, True.intro⟩ ⟨⟨_, rfl, .refl _⟩, True.intro⟩ rfl) ?_
    refine Ok.ret ?_
    cases h
    exact (.inr ⟨_, rfl, rfl⟩)
theorem w_slices_Clone_api_Page_api_Page {p_s : List api_Page} {r : (List api_Page)} (h : slices_Clone_api_Page_api_Page p_s = some r) : Pure Tryz.prog 98 [(.s (List.map c_api_Page p_s))] (.s (List.map c_api_Page r)) := (wo_slices_Clone_api_Page_api_Page h).pure

theorem wo_bytes_Clone {p_b : List UInt8} {r : (List UInt8)} (h : bytes_Clone p_b = some r) : POwn Tryz.prog 88 [(.s (List.map cU8 p_b))] 5 1 (List.map cU8 r) := by
  refine pown_of_ok (n := 8) (c := (Tryz.f88.body.getD .skip)) Tryz.tok Tryz.func88 (by kernel_rfl) rfl rfl (Nat.le_of_ble_eq_true rfl) ?_
  unfold bytes_Clone at h
  refine Ok.wk (Wk.tab (L := [(0, (.s (List.map cU8 p_b)))]) (H' := []) ⟨Le.refl _, True.intro⟩ True.intro rfl) ?_
  refine Ok.seq ?_
  refine Ok.region Tryz.tok ?_
  refine Ok.wk (Wk.tab (L := [(0, (.s (List.map cU8 p_b)))]) (H' := []) ⟨Le.refl _, True.intro⟩ True.intro rfl) ?_
  refine Ok.seq ?_
  refine Ok.seq ?_
  refine Ok.region Tryz.tok ?_
  intro b1 hb1
  have h := anyOf_some h b1 (fun e => List.map_eq_nil_iff.1 (hb1 e))
  refine Ok.wk (Wk.tab (L := [(0, (.s (List.map cU8 p_b))), (4, (vb b1))]) (H' := []) ⟨Le.refl _, Le.refl _, True.intro⟩ True.intro rfl) ?_
  refine Ok.cond (d := 4) (b := b1) rfl h (fun hb h => ?_) fun hb h => ?_
  · refine Ok.seq ?_
    refine Ok.region Tryz.tok ?_
    refine Ok.wk (Wk.tab (L := [(2, (.v (.slice none 0 0)))]) (H' := []) ⟨Le.refl _, True.intro⟩ True.intro rfl) ?_
    refine Ok.ret ?_
    cases h
    exact (.inl ⟨rfl, rfl⟩)
  · refine Ok.skip ?_
    refine Ok.seq ?_
    refine Ok.region Tryz.tok ?_
    obtain ⟨hc1, h⟩ := chk_some h
    refine Or.inr ⟨rowsLen_map (f := cU8) (n := 1) (fun _ => rfl) p_b, app_b2 (f := cU8) (l := (([] : List UInt8))) (l' := p_b) hc1, _, (List.map_append (f := cU8) (l₁ := (([] : List UInt8))) (l₂ := p_b)).symm, ?_⟩
    refine Ok.wk (Wk.tab (L := [(2, (.o 5))]) (H' := [(5, .own 5 1 (List.map cU8 ((([] : List UInt8) ++ p_b))))]) ⟨Le.refl _, True.intro⟩ ⟨⟨_, rfl, .refl _⟩, True.intro⟩ rfl) ?_
    refine Ok.ret ?_
    cases h
    exact (.inr ⟨_, rfl, rfl⟩)
theorem w_bytes_Clone {p_b : List UInt8} {r : (List UInt8)} (h : bytes_Clone p_b = some r) : Pure Tryz.prog 88 [(.s (List.map cU8 p_b))] (.s (List.map cU8 r)) := (wo_bytes_Clone h).pure

theorem w_disk_Write {p_d : api_Disk} {p_at : Int} {p_data : List UInt8} {r : api_Disk × Int} (h : disk_Write p_d p_at p_data = some r) : Pure Tryz.prog 72 [(.a [(.s (List.map c_api_Page p_d.Synced)), (.s (List.map c_api_Page p_d.Loose)), (vb p_d.Down)]), (vi p_at), (.s (List.map cU8 p_data))] (.t [(.a [(.s (List.map c_api_Page r.1.Synced)), (.s (List.map c_api_Page r.1.Loose)), (vb r.1.Down)]), (vi r.2)]) := by
  refine pure_of_ok (n := 29) (c := (Tryz.f72.body.getD .skip)) Tryz.tok Tryz.func72 (by kernel_rfl) rfl rfl (Nat.le_of_ble_eq_true rfl) ?_
  unfold disk_Write at h
  refine Ok.wk (Wk.tab (L := [(0, (.a [(.s (List.map c_api_Page p_d.Synced)), (.s (List.map c_api_Page p_d.Loose)), (vb p_d.Down)])), (1, (vi p_at)), (2, (.s (List.map cU8 p_data)))]) (H' := []) ⟨Le.refl _, Le.refl _, Le.refl _, True.intro⟩ True.intro rfl) ?_
  refine Ok.seq ?_
  refine Ok.region Tryz.tok ?_
  refine Ok.wk (Wk.tab (L := [(1, (vi p_at)), (2, (.s (List.map cU8 p_data))), (3, (.b 3 0)), (6, (.b 6 0))]) (H' := [(3, .box [(.s (List.map c_api_Page p_d.Synced)), (.s (List.map c_api_Page p_d.Loose)), (vb p_d.Down)]), (6, .box [(.v (.slice none 0 0)), (.v (.slice none 0 0)), (vb false)])]) ⟨Le.refl _, Le.refl _, Le.refl _, Le.refl _, True.intro⟩ ⟨⟨_, rfl, .refl _⟩, ⟨_, rfl, .refl _⟩, True.intro⟩ rfl) ?_
  refine Ok.seq ?_
  refine Ok.block ?_
  refine Ok.seq ?_
  refine Ok.region Tryz.tok ?_
  refine ⟨_, rfl, ?_⟩
  refine Ok.wk (Wk.tab (L := [(1, (vi p_at)), (2, (.s (List.map cU8 p_data))), (3, (.b 3 0)), (6, (.b 6 0)), (8, (vb p_d.Down))]) (H' := [(3, .box [(.s (List.map c_api_Page p_d.Synced)), (.s (List.map c_api_Page p_d.Loose)), (vb p_d.Down)]), (6, .box [(.v (.slice none 0 0)), (.v (.slice none 0 0)), (vb false)])]) ⟨Le.refl _, Le.refl _, Le.refl _, Le.refl _, Le.refl _, True.intro⟩ ⟨⟨_, rfl, .refl _⟩, ⟨_, rfl, .refl _⟩, True.intro⟩ rfl) ?_
  refine Ok.cond (d := 8) (b := p_d.Down) rfl h (fun hb h => ?_) fun hb h => ?_
  · refine Ok.seq ?_
    refine Ok.region Tryz.tok ?_
    refine ⟨_, rfl, ⟨_, rfl, ?_⟩⟩
    refine Ok.wk (Wk.tab (L := [(6, (.b 6 0)), (7, (vi (40)))]) (H' := [(6, .box [(.s (List.map c_api_Page p_d.Synced)), (.s (List.map c_api_Page p_d.Loose)), (vb p_d.Down)])]) ⟨Le.refl _, Le.refl _, True.intro⟩ ⟨⟨_, rfl, .refl _⟩, True.intro⟩ rfl) ?_
    refine Ok.ret ?_
    cases h
    exact ⟨_, rfl, (Fz.t (.cons (Fz.imm rfl) (.cons Fz.v .nil)))⟩
  · refine Ok.seq ?_
    refine Ok.region Tryz.tok ?_
    obtain ⟨x1, hx1, h⟩ := bindS h
    refine CallOk.call (w_disk_may hx1) (LeL.refl _) ?_
    refine Ok.wk (Wk.tab (L := [(1, (vi p_at)), (2, (.s (List.map cU8 p_data))), (3, (.b 3 0)), (6, (.b 6 0)), (12, (vb ((!x1))))]) (H' := [(3, .box [(.s (List.map c_api_Page p_d.Synced)), (.s (List.map c_api_Page p_d.Loose)), (vb p_d.Down)]), (6, .box [(.v (.slice none 0 0)), (.v (.slice none 0 0)), (vb false)])]) ⟨Le.refl _, Le.refl _, Le.refl _, Le.refl _, Le.refl _, True.intro⟩ ⟨⟨_, rfl, .refl _⟩, ⟨_, rfl, .refl _⟩, True.intro⟩ rfl) ?_
    refine Ok.cond (d := 12) (b := (!x1)) rfl h (fun hb h => ?_) fun hb h => ?_
    · refine Ok.seq ?_
      refine Ok.region Tryz.tok ?_
      refine ⟨_, rfl, ⟨_, rfl, ?_⟩⟩
      refine Ok.wk (Wk.tab (L := [(6, (.b 6 0)), (7, (vi (1)))]) (H' := [(6, .box [(.s (List.map c_api_Page p_d.Synced)), (.s (List.map c_api_Page p_d.Loose)), (vb p_d.Down)])]) ⟨Le.refl _, Le.refl _, True.intro⟩ ⟨⟨_, rfl, .refl _⟩, True.intro⟩ rfl) ?_
      refine Ok.ret ?_
      cases h
      exact ⟨_, rfl, (Fz.t (.cons (Fz.imm rfl) (.cons Fz.v .nil)))⟩
    · refine Ok.skip ?_
      refine Ok.seq ?_
      refine Ok.region Tryz.tok ?_
      obtain ⟨x2, hx2, h⟩ := bindS h
      refine ⟨_, rfl, ?_⟩
      refine CallOk.own (D := 20) (wo_slices_Clone_api_Page_api_Page hx2) (LeL.refl _) rfl ?_
      obtain ⟨x3, hx3, h⟩ := bindS h
      refine CallOk.call (w_bytes_Clone hx3) (LeL.refl _) ?_
      obtain ⟨hc1, h⟩ := chk_some h
      refine Or.inl ⟨rowsLen_map (f := c_api_Page) (n := 2) (fun _ => rfl) ([(⟨p_at, x3⟩ : api_Page)]), app_b2 (f := c_api_Page) (l := x2) (l' := ([(⟨p_at, x3⟩ : api_Page)])) hc1, _, (List.map_append (f := c_api_Page) (l₁ := x2) (l₂ := ([(⟨p_at, x3⟩ : api_Page)]))).symm, ⟨_, rfl, ?_⟩⟩
      refine Ok.wk (Wk.tab (L := [(3, (.b 3 0)), (6, (.b 6 0))]) (H' := [(3, .box [(.s (List.map c_api_Page p_d.Synced)), (.o 20), (vb p_d.Down)]), (20, .own 120 2 (List.map c_api_Page ((x2 ++ [(⟨p_at, x3⟩ : api_Page)])))), (6, .box [(.v (.slice none 0 0)), (.v (.slice none 0 0)), (vb false)])]) ⟨Le.refl _, Le.refl _, True.intro⟩ ⟨⟨_, rfl, .refl _⟩, ⟨_, rfl, .refl _⟩, ⟨_, rfl, .refl _⟩, True.intro⟩ rfl) ?_
      refine Ok.seq ?_
      refine Ok.region Tryz.tok ?_
      refine ⟨_, rfl, ⟨_, rfl, ?_⟩⟩
      refine Ok.wk (Wk.tab (L := [(6, (.b 6 0)), (7, (vi (0)))]) (H' := [(6, .box [(.s (List.map c_api_Page p_d.Synced)), (.o 20), (vb p_d.Down)]), (20, .own 120 2 (List.map c_api_Page ((x2 ++ [(⟨p_at, x3⟩ : api_Page)]))))]) ⟨Le.refl _, Le.refl _, True.intro⟩ ⟨⟨_, rfl, .refl _⟩, ⟨_, rfl, .refl _⟩, True.intro⟩ rfl) ?_
      refine Ok.ret ?_
      cases h
      exact ⟨_, rfl, (Fz.t (.cons (Fz.a (.cons Fz.s (.cons (Fz.o rfl) (.cons Fz.v .nil)))) (.cons Fz.v .nil)))⟩

theorem w_chunk_Put {p_d : api_Disk} {p_c : api_Copy} {r : api_Disk × Int} (h : chunk_Put p_d p_c = some r) : Pure Tryz.prog 43 [(.a [(.s (List.map c_api_Page p_d.Synced)), (.s (List.map c_api_Page p_d.Loose)), (vb p_d.Down)]), (.a [(vi p_c.Id), (vi p_c.Ver), (.s (List.map cU8 p_c.Data)), (.s (List.map Go.Cat.encI p_c.Sums))])] (.t [(.a [(.s (List.map c_api_Page r.1.Synced)), (.s (List.map c_api_Page r.1.Loose)), (vb r.1.Down)]), (vi r.2)]) := by
  refine pure_of_ok (n := 18) (c := (Tryz.f43.body.getD .skip)) Tryz.tok Tryz.func43 (by kernel_rfl) rfl rfl (Nat.le_of_ble_eq_true rfl) ?_
  unfold chunk_Put at h
  refine Ok.wk (Wk.tab (L := [(0, (.a [(.s (List.map c_api_Page p_d.Synced)), (.s (List.map c_api_Page p_d.Loose)), (vb p_d.Down)])), (1, (.a [(vi p_c.Id), (vi p_c.Ver), (.s (List.map cU8 p_c.Data)), (.s (List.map Go.Cat.encI p_c.Sums))]))]) (H' := []) ⟨Le.refl _, Le.refl _, True.intro⟩ True.intro rfl) ?_
  refine Ok.seq ?_
  refine Ok.region Tryz.tok ?_
  refine Ok.wk (Wk.tab (L := [(2, (.b 2 0)), (3, (.b 3 0)), (4, (.b 4 0))]) (H' := [(2, .box [(.s (List.map c_api_Page p_d.Synced)), (.s (List.map c_api_Page p_d.Loose)), (vb p_d.Down)]), (3, .box [(vi p_c.Id), (vi p_c.Ver), (.s (List.map cU8 p_c.Data)), (.s (List.map Go.Cat.encI p_c.Sums))]), (4, .box [(.v (.slice none 0 0)), (.v (.slice none 0 0)), (vb false)])]) ⟨Le.refl _, Le.refl _, Le.refl _, True.intro⟩ ⟨⟨_, rfl, .refl _⟩, ⟨_, rfl, .refl _⟩, ⟨_, rfl, .refl _⟩, True.intro⟩ rfl) ?_
  refine Ok.seq ?_
  refine Ok.seq ?_
  refine Ok.region Tryz.tok ?_
  obtain ⟨x1, hx1, h⟩ := bindS h
  refine ⟨_, rfl, ?_⟩
  refine CallOk.call (w_chunk_may hx1) (LeL.refl _) ?_
  refine Ok.wk (Wk.tab (L := [(2, (.b 2 0)), (3, (.b 3 0)), (4, (.b 4 0)), (8, (vb ((!x1))))]) (H' := [(2, .box [(.s (List.map c_api_Page p_d.Synced)), (.s (List.map c_api_Page p_d.Loose)), (vb p_d.Down)]), (3, .box [(vi p_c.Id), (vi p_c.Ver), (.s (List.map cU8 p_c.Data)), (.s (List.map Go.Cat.encI p_c.Sums))]), (4, .box [(.v (.slice none 0 0)), (.v (.slice none 0 0)), (vb false)])]) ⟨Le.refl _, Le.refl _, Le.refl _, Le.refl _, True.intro⟩ ⟨⟨_, rfl, .refl _⟩, ⟨_, rfl, .refl _⟩, ⟨_, rfl, .refl _⟩, True.intro⟩ rfl) ?_
  refine Ok.cond (d := 8) (b := (!x1)) rfl h (fun hb h => ?_) fun hb h => ?_
  · refine Ok.seq ?_
    refine Ok.region Tryz.tok ?_
    refine ⟨_, rfl, ⟨_, rfl, ?_⟩⟩
    refine Ok.wk (Wk.tab (L := [(4, (.b 4 0)), (5, (vi (1)))]) (H' := [(4, .box [(.s (List.map c_api_Page p_d.Synced)), (.s (List.map c_api_Page p_d.Loose)), (vb p_d.Down)])]) ⟨Le.refl _, Le.refl _, True.intro⟩ ⟨⟨_, rfl, .refl _⟩, True.intro⟩ rfl) ?_
    refine Ok.ret ?_
    cases h
    exact ⟨_, rfl, (Fz.t (.cons (Fz.imm rfl) (.cons Fz.v .nil)))⟩
  · refine Ok.skip ?_
    refine Ok.seq ?_
    refine Ok.draw (m := 8) (MD := ⟨[]⟩) (CH := ⟨[]⟩) Tryz.tok Tryz.mixed (by kernel_rfl) ?_
    obtain ⟨x2, hx2, h⟩ := bindS h
    obtain ⟨x3, hx3, h⟩ := bindS h
    refine ⟨_, ⟨_, rfl, rfl⟩, ⟨_, rfl, ⟨_, ⟨_, rfl, rfl⟩, ⟨_, ⟨_, rfl, rfl⟩, ⟨_, ⟨_, .of_pure (w_chunk_page hx2) (LeL.refl _), rfl⟩, ⟨_, ⟨_, .of_pure (w_disk_Write hx3) (LeL.refl _), rfl⟩, ⟨_, rfl, ⟨_, rfl, ⟨True.intro, ⟨_, rfl, ?_⟩⟩⟩⟩⟩⟩⟩⟩⟩⟩
    refine Ok.wk (Wk.tab (L := [(4, (.b 4 0)), (5, (vi x3.2))]) (H' := [(4, .box [(.s (List.map c_api_Page x3.1.Synced)), (.s (List.map c_api_Page x3.1.Loose)), (vb x3.1.Down)])]) ⟨Le.refl _, Le.refl _, True.intro⟩ ⟨⟨_, rfl, .refl _⟩, True.intro⟩ rfl) ?_
    refine Ok.ret ?_
    cases h
    exact ⟨_, rfl, (Fz.t (.cons (Fz.imm rfl) (.cons Fz.v .nil)))⟩

theorem wo_slices_Grow_api_Page_api_Page__nil {p_n : Int} {r : (List api_Page)} (h : slices_Grow_api_Page_api_Page__nil p_n = some r) : POwn Tryz.prog 112 [(.v (.slice none 0 0)), (vi p_n)] 120 2 (List.map c_api_Page r) := by
  refine pown_of_ok (n := 27) (c := (Tryz.f112.body.getD .skip)) Tryz.tok Tryz.func112 (by kernel_rfl) rfl rfl (Nat.le_of_ble_eq_true rfl) ?_
  unfold slices_Grow_api_Page_api_Page__nil at h
  refine Ok.wk (Wk.tab (L := [(0, (.v (.slice none 0 0))), (1, (vi p_n))]) (H' := []) ⟨Le.refl _, Le.refl _, True.intro⟩ True.intro rfl) ?_
  refine Ok.seq ?_
  refine Ok.region Tryz.tok ?_
  refine Ok.wk (Wk.tab (L := [(0, (.v (.slice none 0 0))), (1, (vi p_n))]) (H' := []) ⟨Le.refl _, Le.refl _, True.intro⟩ True.intro rfl) ?_
  obtain ⟨v1, hv1, h⟩ := bindS h
  refine Ok.seqw ⟨Cat.tab [(0, (.v (.slice none 0 0))), (1, (vi p_n))], []⟩ ?_ ?_
  · refine Ok.seq ?_
    refine Ok.region Tryz.tok ?_
    refine Ok.wk (Wk.tab (L := [(0, (.v (.slice none 0 0))), (1, (vi p_n)), (6, (vb ((decide (p_n < 0)))))]) (H' := []) ⟨Le.refl _, Le.refl _, Le.refl _, True.intro⟩ True.intro rfl) ?_
    refine Ok.cond (d := 6) (b := (decide (p_n < 0))) rfl hv1 (fun hb hv1 => ?_) fun hb hv1 => ?_
    · cases hv1
    · refine Ok.skip ?_
      cases hv1
      exact Wk.tab ⟨Le.refl _, Le.refl _, True.intro⟩ True.intro rfl
  obtain ⟨v2, hv2, h⟩ := bindS h
  refine Ok.seqw ⟨Cat.tab [(0, (.o 22))], [(22, .own 120 2 (List.map c_api_Page v2))]⟩ ?_ ?_
  · refine Ok.seq ?_
    refine Ok.region Tryz.tok ?_
    obtain ⟨hc1, hv2⟩ := chk_some hv2
    refine (Or.inl ⟨by decide, (Or.inl ⟨hc1, ?_⟩)⟩)
    refine Ok.wk (Wk.tab (L := [(0, (.v (.slice none 0 0))), (1, (vi ((p_n - 0))))]) (H' := []) ⟨Le.refl _, Le.refl _, True.intro⟩ True.intro rfl) ?_
    refine Ok.seq ?_
    refine Ok.region Tryz.tok ?_
    refine Ok.wk (Wk.tab (L := [(0, (.v (.slice none 0 0))), (1, (vi ((p_n - 0)))), (16, (vb ((decide ((p_n - 0) > 0)))))]) (H' := []) ⟨Le.refl _, Le.refl _, Le.refl _, True.intro⟩ True.intro rfl) ?_
    refine Ok.cond (d := 16) (b := (decide ((p_n - 0) > 0))) rfl hv2 (fun hb hv2 => ?_) fun hb hv2 => ?_
    · refine Ok.region Tryz.tok ?_
      obtain ⟨hc2, hv2⟩ := chk_some hv2
      obtain ⟨hc3, hv2⟩ := chk_some hv2
      refine ⟨0, rfl, ⟨Nat.le_refl _, Nat.le_refl _, ⟨_, mk_nat hc2, hc2.2, _, (List.map_replicate (f := c_api_Page) (a := ((⟨0, []⟩ : api_Page) : api_Page))).symm, ⟨_, sl_nat hc3.1, sl_own hc3, _, (List.map_take (f := c_api_Page)).symm, ?_⟩⟩⟩⟩
      cases hv2
      exact Wk.tab ⟨Le.refl _, True.intro⟩ ⟨⟨_, rfl, .refl _⟩, True.intro⟩ rfl
    · refine Ok.skip ?_
      cases hv2
      exact (Wk.own0 (t := 0) (id := 22) (E := 120) (K := 2) rfl rfl).trans (Wk.tab ⟨Le.refl _, True.intro⟩ ⟨⟨_, rfl, .refl _⟩, True.intro⟩ rfl)
  refine Ok.seq ?_
  refine Ok.region Tryz.tok ?_
  refine Ok.wk (Wk.tab (L := [(4, (.o 22))]) (H' := [(22, .own 120 2 (List.map c_api_Page v2))]) ⟨Le.refl _, True.intro⟩ ⟨⟨_, rfl, .refl _⟩, True.intro⟩ rfl) ?_
  refine Ok.ret ?_
  cases h
  exact (.inr ⟨_, rfl, rfl⟩)
theorem w_slices_Grow_api_Page_api_Page__nil {p_n : Int} {r : (List api_Page)} (h : slices_Grow_api_Page_api_Page__nil p_n = some r) : Pure Tryz.prog 112 [(.v (.slice none 0 0)), (vi p_n)] (.s (List.map c_api_Page r)) := (wo_slices_Grow_api_Page_api_Page__nil h).pure

theorem wo_slices_Concat_api_Page_api_Page {p_slices : List (List api_Page)} {r : (List api_Page)} (h : slices_Concat_api_Page_api_Page p_slices = some r) : POwn Tryz.prog 84 [(.s (List.map cL_c_api_Page p_slices))] 120 2 (List.map c_api_Page r) := by
  refine pown_of_ok (n := 36) (c := (Tryz.f84.body.getD .skip)) Tryz.tok Tryz.func84 (by kernel_rfl) rfl rfl (Nat.le_of_ble_eq_true rfl) ?_
  unfold slices_Concat_api_Page_api_Page at h
  refine Ok.wk (Wk.tab (L := [(0, (.s (List.map cL_c_api_Page p_slices)))]) (H' := []) ⟨Le.refl _, True.intro⟩ True.intro rfl) ?_
  refine Ok.seq ?_
  refine Ok.region Tryz.tok ?_
  refine Ok.wk (Wk.tab (L := [(0, (.s (List.map cL_c_api_Page p_slices)))]) (H' := []) ⟨Le.refl _, True.intro⟩ True.intro rfl) ?_
  refine Ok.seq ?_
  refine Ok.region Tryz.tok ?_
  refine Ok.wk (Wk.tab (L := [(0, (.s (List.map cL_c_api_Page p_slices))), (3, (vi (0)))]) (H' := []) ⟨Le.refl _, Le.refl _, True.intro⟩ True.intro rfl) ?_
  obtain ⟨v1, hv1, h⟩ := bindS h
  refine Ok.seqw ⟨Cat.tab [(0, (.s (List.map cL_c_api_Page p_slices))), (3, (vi v1))], []⟩ ?_ ?_
  · refine Ok.seq ?_
    refine Ok.region Tryz.tok ?_
    refine ⟨_, List.length_map _, fun _ => ?_⟩
    refine Ok.wk (Wk.tab (L := [(0, (.s (List.map cL_c_api_Page p_slices))), (3, (vi (0))), (9, (.s (List.map cL_c_api_Page p_slices))), (10, (vi ((p_slices.length : Int)))), (11, (vi (0)))]) (H' := []) ⟨Le.refl _, Le.refl _, Le.refl _, Le.refl _, Le.refl _, True.intro⟩ True.intro rfl) ?_
    refine Ok.block ?_
    refine Ok.loop (fun (s1 : Int × Int) => ⟨Cat.tab [(0, (.s (List.map cL_c_api_Page p_slices))), (3, (vi s1.1)), (9, (.s (List.map cL_c_api_Page p_slices))), (10, (vi ((p_slices.length : Int)))), (11, (vi s1.2))], []⟩) (slices_Concat_api_Page_api_Page_B1 p_slices) (s0 := (0, 0)) hv1 (Wk.tab ⟨Le.refl _, Le.refl _, Le.refl _, Le.refl _, Le.refl _, True.intro⟩ True.intro rfl) ?_
    intro s1 y1 hB1 hy1
    unfold slices_Concat_api_Page_api_Page_B1 at hB1
    refine Ok.seq ?_
    refine Ok.region Tryz.tok ?_
    refine Ok.wk (Wk.tab (L := [(0, (.s (List.map cL_c_api_Page p_slices))), (3, (vi s1.1)), (9, (.s (List.map cL_c_api_Page p_slices))), (10, (vi ((p_slices.length : Int)))), (11, (vi s1.2)), (12, (vb ((decide (s1.2 < (p_slices.length : Int))))))]) (H' := []) ⟨Le.refl _, Le.refl _, Le.refl _, Le.refl _, Le.refl _, Le.refl _, True.intro⟩ True.intro rfl) ?_
    refine Ok.seq ?_
    refine Ok.cond (d := 12) (b := (decide (s1.2 < (p_slices.length : Int)))) rfl hB1 (fun hb hB1 => ?_) fun hb hB1 => ?_
    · refine Ok.skip ?_
      obtain ⟨v2, hv2, hB1⟩ := bindS hB1
      refine Ok.seqw ⟨Cat.tab [(0, (.s (List.map cL_c_api_Page p_slices))), (3, (vi v2)), (9, (.s (List.map cL_c_api_Page p_slices))), (10, (vi ((p_slices.length : Int)))), (11, (vi s1.2))], []⟩ ?_ ?_
      · refine Ok.block ?_
        refine Ok.seq ?_
        refine Ok.region Tryz.tok ?_
        obtain ⟨x1, hx1, hv2⟩ := bindS hv2
        refine ⟨_, idx_nat hx1, _, idx_row hx1, ⟨_, rfl, ?_⟩⟩
        refine Ok.wk (Wk.tab (L := [(0, (.s (List.map cL_c_api_Page p_slices))), (3, (vi s1.1)), (5, (.s (List.map c_api_Page x1))), (9, (.s (List.map cL_c_api_Page p_slices))), (10, (vi ((p_slices.length : Int)))), (11, (vi s1.2))]) (H' := []) ⟨Le.refl _, Le.refl _, Le.refl _, Le.refl _, Le.refl _, Le.refl _, True.intro⟩ True.intro rfl) ?_
        refine Ok.seq ?_
        refine Ok.region Tryz.tok ?_
        obtain ⟨hc1, hv2⟩ := chk_some hv2
        refine ⟨_, List.length_map _, fun _ => (Or.inl ⟨hc1, ?_⟩)⟩
        refine Ok.wk (Wk.tab (L := [(0, (.s (List.map cL_c_api_Page p_slices))), (3, (vi ((s1.1 + (x1.length : Int))))), (9, (.s (List.map cL_c_api_Page p_slices))), (10, (vi ((p_slices.length : Int)))), (11, (vi s1.2))]) (H' := []) ⟨Le.refl _, Le.refl _, Le.refl _, Le.refl _, Le.refl _, True.intro⟩ True.intro rfl) ?_
        refine Ok.seq ?_
        refine Ok.region Tryz.tok ?_
        refine Ok.wk (Wk.tab (L := [(0, (.s (List.map cL_c_api_Page p_slices))), (3, (vi ((s1.1 + (x1.length : Int))))), (9, (.s (List.map cL_c_api_Page p_slices))), (10, (vi ((p_slices.length : Int)))), (11, (vi s1.2)), (20, (vb ((decide ((s1.1 + (x1.length : Int)) < 0)))))]) (H' := []) ⟨Le.refl _, Le.refl _, Le.refl _, Le.refl _, Le.refl _, Le.refl _, True.intro⟩ True.intro rfl) ?_
        refine Ok.cond (d := 20) (b := (decide ((s1.1 + (x1.length : Int)) < 0))) rfl hv2 (fun hb hv2 => ?_) fun hb hv2 => ?_
        · cases hv2
        · refine Ok.skip ?_
          cases hv2
          exact Wk.tab ⟨Le.refl _, Le.refl _, Le.refl _, Le.refl _, Le.refl _, True.intro⟩ True.intro rfl
      refine Ok.region Tryz.tok ?_
      obtain ⟨hc2, hB1⟩ := chk_some hB1
      refine (Or.inl ⟨hc2, ?_⟩)
      exact ⟨_, (Option.some.inj hB1).symm, Wk.tab ⟨Le.refl _, Le.refl _, Le.refl _, Le.refl _, Le.refl _, True.intro⟩ True.intro rfl⟩
    · refine Ok.exit ?_
      have hB1 := out_ret hB1 hy1
      cases hB1
      exact Wk.tab ⟨Le.refl _, Le.refl _, True.intro⟩ True.intro rfl
  refine Ok.seq ?_
  refine Ok.region Tryz.tok ?_
  obtain ⟨x2, hx2, h⟩ := bindS h
  refine CallOk.own (D := 24) (wo_slices_Grow_api_Page_api_Page__nil hx2) (LeL.refl _) rfl ?_
  refine Ok.wk (Wk.tab (L := [(0, (.s (List.map cL_c_api_Page p_slices))), (6, (.o 24))]) (H' := [(24, .own 120 2 (List.map c_api_Page x2))]) ⟨Le.refl _, Le.refl _, True.intro⟩ ⟨⟨_, rfl, .refl _⟩, True.intro⟩ rfl) ?_
  obtain ⟨v3, hv3, h⟩ := bindS h
  refine Ok.seqw ⟨Cat.tab [(6, (.o 24))], [(24, .own 120 2 (List.map c_api_Page v3))]⟩ ?_ ?_
  · refine Ok.seq ?_
    refine Ok.region Tryz.tok ?_
    refine ⟨_, List.length_map _, fun _ => ?_⟩
    refine Ok.wk (Wk.tab (L := [(6, (.o 24)), (25, (.s (List.map cL_c_api_Page p_slices))), (26, (vi ((p_slices.length : Int)))), (27, (vi (0)))]) (H' := [(24, .own 120 2 (List.map c_api_Page x2))]) ⟨Le.refl _, Le.refl _, Le.refl _, Le.refl _, True.intro⟩ ⟨⟨_, rfl, .refl _⟩, True.intro⟩ rfl) ?_
    refine Ok.block ?_
    refine Ok.loop (fun (s2 : Int × (List api_Page)) => ⟨Cat.tab [(6, (.o 24)), (25, (.s (List.map cL_c_api_Page p_slices))), (26, (vi ((p_slices.length : Int)))), (27, (vi s2.1))], [(24, .own 120 2 (List.map c_api_Page s2.2))]⟩) (slices_Concat_api_Page_api_Page_B2 p_slices) (s0 := (0, x2)) hv3 (Wk.tab ⟨Le.refl _, Le.refl _, Le.refl _, Le.refl _, True.intro⟩ ⟨⟨_, rfl, .refl _⟩, True.intro⟩ rfl) ?_
    intro s2 y2 hB2 hy2
    unfold slices_Concat_api_Page_api_Page_B2 at hB2
    refine Ok.seq ?_
    refine Ok.region Tryz.tok ?_
    refine Ok.wk (Wk.tab (L := [(6, (.o 24)), (25, (.s (List.map cL_c_api_Page p_slices))), (26, (vi ((p_slices.length : Int)))), (27, (vi s2.1)), (28, (vb ((decide (s2.1 < (p_slices.length : Int))))))]) (H' := [(24, .own 120 2 (List.map c_api_Page s2.2))]) ⟨Le.refl _, Le.refl _, Le.refl _, Le.refl _, Le.refl _, True.intro⟩ ⟨⟨_, rfl, .refl _⟩, True.intro⟩ rfl) ?_
    refine Ok.seq ?_
    refine Ok.cond (d := 28) (b := (decide (s2.1 < (p_slices.length : Int)))) rfl hB2 (fun hb hB2 => ?_) fun hb hB2 => ?_
    · refine Ok.skip ?_
      refine Ok.seq ?_
      refine Ok.block ?_
      refine Ok.seq ?_
      refine Ok.region Tryz.tok ?_
      obtain ⟨x3, hx3, hB2⟩ := bindS hB2
      refine ⟨_, idx_nat hx3, _, idx_row hx3, ⟨_, rfl, ?_⟩⟩
      refine Ok.wk (Wk.tab (L := [(6, (.o 24)), (8, (.s (List.map c_api_Page x3))), (25, (.s (List.map cL_c_api_Page p_slices))), (26, (vi ((p_slices.length : Int)))), (27, (vi s2.1))]) (H' := [(24, .own 120 2 (List.map c_api_Page s2.2))]) ⟨Le.refl _, Le.refl _, Le.refl _, Le.refl _, Le.refl _, True.intro⟩ ⟨⟨_, rfl, .refl _⟩, True.intro⟩ rfl) ?_
      refine Ok.region Tryz.tok ?_
      obtain ⟨hc3, hB2⟩ := chk_some hB2
      refine ⟨rowsLen_map (f := c_api_Page) (n := 2) (fun _ => rfl) x3, app_b2 (f := c_api_Page) (l := s2.2) (l' := x3) hc3, _, (List.map_append (f := c_api_Page) (l₁ := s2.2) (l₂ := x3)).symm, ?_⟩
      refine Ok.wk (Wk.tab (L := [(6, (.o 24)), (25, (.s (List.map cL_c_api_Page p_slices))), (26, (vi ((p_slices.length : Int)))), (27, (vi s2.1))]) (H' := [(24, .own 120 2 (List.map c_api_Page ((s2.2 ++ x3))))]) ⟨Le.refl _, Le.refl _, Le.refl _, Le.refl _, True.intro⟩ ⟨⟨_, rfl, .refl _⟩, True.intro⟩ rfl) ?_
      refine Ok.region Tryz.tok ?_
      obtain ⟨hc4, hB2⟩ := chk_some hB2
      refine (Or.inl ⟨hc4, ?_⟩)
      exact ⟨_, (Option.some.inj hB2).symm, Wk.tab ⟨Le.refl _, Le.refl _, Le.refl _, Le.refl _, True.intro⟩ ⟨⟨_, rfl, .refl _⟩, True.intro⟩ rfl⟩
    · refine Ok.exit ?_
      have hB2 := out_ret hB2 hy2
      cases hB2
      exact Wk.tab ⟨Le.refl _, True.intro⟩ ⟨⟨_, rfl, .refl _⟩, True.intro⟩ rfl
  refine Ok.seq ?_
  refine Ok.region Tryz.tok ?_
  refine Ok.wk (Wk.tab (L := [(2, (.o 24))]) (H' := [(24, .own 120 2 (List.map c_api_Page v3))]) ⟨Le.refl _, True.intro⟩ ⟨⟨_, rfl, .refl _⟩, True.intro⟩ rfl) ?_
  refine Ok.ret ?_
  cases h
  exact (.inr ⟨_, rfl, rfl⟩)
theorem w_slices_Concat_api_Page_api_Page {p_slices : List (List api_Page)} {r : (List api_Page)} (h : slices_Concat_api_Page_api_Page p_slices = some r) : Pure Tryz.prog 84 [(.s (List.map cL_c_api_Page p_slices))] (.s (List.map c_api_Page r)) := (wo_slices_Concat_api_Page_api_Page h).pure

theorem wo_disk_laid [Off] {p_l : List api_Page} {p_over : List api_Page} {r : (List api_Page)} (h : disk_laid p_l p_over = some r) : POwn Tryz.prog 75 [(.s (List.map c_api_Page p_l)), (.s (List.map c_api_Page p_over))] 120 2 (List.map c_api_Page r) := by
  refine pown_of_ok (n := 42) (c := (Tryz.f75.body.getD .skip)) Tryz.tok Tryz.func75 (by kernel_rfl) rfl rfl (Nat.le_of_ble_eq_true rfl) ?_
  unfold disk_laid at h
  refine Ok.wk (Wk.tab (L := [(0, (.s (List.map c_api_Page p_l))), (1, (.s (List.map c_api_Page p_over)))]) (H' := []) ⟨Le.refl _, Le.refl _, True.intro⟩ True.intro rfl) ?_
  refine Ok.seq ?_
  refine Ok.region Tryz.tok ?_
  refine Ok.wk (Wk.tab (L := [(0, (.s (List.map c_api_Page p_l))), (1, (.s (List.map c_api_Page p_over)))]) (H' := []) ⟨Le.refl _, Le.refl _, True.intro⟩ True.intro rfl) ?_
  refine Ok.seq ?_
  refine Ok.region Tryz.tok ?_
  refine Ok.wk (Wk.tab (L := [(0, (.s (List.map c_api_Page p_l))), (1, (.s (List.map c_api_Page p_over))), (5, (.m 11))]) (H' := [(11, .mp true (List.map (fun p => (p.1, c_api_Page p.2)) (([] : List (Int × api_Page)))))]) ⟨Le.refl _, Le.refl _, Le.refl _, True.intro⟩ ⟨⟨_, rfl, .refl _⟩, True.intro⟩ rfl) ?_
  obtain ⟨v1, hv1, h⟩ := bindS h
  refine Ok.seqw ⟨Cat.tab [(5, (.m 11))], [(11, .mp true (List.map (fun p => (p.1, c_api_Page p.2)) v1))]⟩ ?_ ?_
  · refine Ok.seq ?_
    refine Ok.region Tryz.tok ?_
    obtain ⟨x1, hx1, hv1⟩ := bindS hv1
    refine Or.inl ?_
    refine CallOk.call (w_slices_Concat_api_Page_api_Page hx1) (LeL.refl _) ?_
    refine ⟨_, List.length_map _, fun _ => ?_⟩
    refine Ok.wk (Wk.tab (L := [(5, (.m 11)), (15, (.s (List.map c_api_Page x1))), (16, (vi ((x1.length : Int)))), (17, (vi (0)))]) (H' := [(11, .mp true (List.map (fun p => (p.1, c_api_Page p.2)) (([] : List (Int × api_Page)))))]) ⟨Le.refl _, Le.refl _, Le.refl _, Le.refl _, True.intro⟩ ⟨⟨_, rfl, .refl _⟩, True.intro⟩ rfl) ?_
    refine Ok.block ?_
    refine Ok.loop (fun (s1 : Int × (List (Int × api_Page))) => ⟨Cat.tab [(5, (.m 11)), (15, (.s (List.map c_api_Page x1))), (16, (vi ((x1.length : Int)))), (17, (vi s1.1))], [(11, .mp true (List.map (fun p => (p.1, c_api_Page p.2)) s1.2))]⟩) (disk_laid_B1 x1) (s0 := (0, ([] : List (Int × api_Page)))) hv1 (Wk.tab ⟨Le.refl _, Le.refl _, Le.refl _, Le.refl _, True.intro⟩ ⟨⟨_, rfl, .refl _⟩, True.intro⟩ rfl) ?_
    intro s1 y1 hB1 hy1
    unfold disk_laid_B1 at hB1
    refine Ok.seq ?_
    refine Ok.region Tryz.tok ?_
    refine Ok.wk (Wk.tab (L := [(5, (.m 11)), (15, (.s (List.map c_api_Page x1))), (16, (vi ((x1.length : Int)))), (17, (vi s1.1)), (18, (vb ((decide (s1.1 < (x1.length : Int))))))]) (H' := [(11, .mp true (List.map (fun p => (p.1, c_api_Page p.2)) s1.2))]) ⟨Le.refl _, Le.refl _, Le.refl _, Le.refl _, Le.refl _, True.intro⟩ ⟨⟨_, rfl, .refl _⟩, True.intro⟩ rfl) ?_
    refine Ok.seq ?_
    refine Ok.cond (d := 18) (b := (decide (s1.1 < (x1.length : Int)))) rfl hB1 (fun hb hB1 => ?_) fun hb hB1 => ?_
    · refine Ok.skip ?_
      refine Ok.seq ?_
      refine Ok.block ?_
      refine Ok.seq ?_
      refine Ok.region Tryz.tok ?_
      obtain ⟨x2, hx2, hB1⟩ := bindS hB1
      refine ⟨_, idx_nat hx2, _, idx_row hx2, ⟨_, rfl, ⟨_, rfl, ?_⟩⟩⟩
      refine Ok.wk (Wk.tab (L := [(5, (.m 11)), (7, (.b 7 0)), (15, (.s (List.map c_api_Page x1))), (16, (vi ((x1.length : Int)))), (17, (vi s1.1))]) (H' := [(11, .mp true (List.map (fun p => (p.1, c_api_Page p.2)) s1.2)), (7, .box [(vi x2.At), (.s (List.map cU8 x2.Data))])]) ⟨Le.refl _, Le.refl _, Le.refl _, Le.refl _, Le.refl _, True.intro⟩ ⟨⟨_, rfl, .refl _⟩, ⟨_, rfl, .refl _⟩, True.intro⟩ rfl) ?_
      refine Ok.region Tryz.tok ?_
      obtain ⟨hc1, hB1⟩ := chk_some hB1
      refine ⟨_, rfl, ⟨_, rfl, ⟨hc1.1, Nat.lt_of_le_of_lt (Nat.le_of_eq (List.length_map _)) hc1.2, _, mset_map c_api_Page x2.At x2 s1.2, ?_⟩⟩⟩
      refine Ok.wk (Wk.tab (L := [(5, (.m 11)), (15, (.s (List.map c_api_Page x1))), (16, (vi ((x1.length : Int)))), (17, (vi s1.1))]) (H' := [(11, .mp true (List.map (fun p => (p.1, c_api_Page p.2)) ((mset x2.At x2 s1.2))))]) ⟨Le.refl _, Le.refl _, Le.refl _, Le.refl _, True.intro⟩ ⟨⟨_, rfl, .refl _⟩, True.intro⟩ rfl) ?_
      refine Ok.region Tryz.tok ?_
      obtain ⟨hc2, hB1⟩ := chk_some hB1
      refine (Or.inl ⟨hc2, ?_⟩)
      exact ⟨_, (Option.some.inj hB1).symm, Wk.tab ⟨Le.refl _, Le.refl _, Le.refl _, Le.refl _, True.intro⟩ ⟨⟨_, rfl, .refl _⟩, True.intro⟩ rfl⟩
    · refine Ok.exit ?_
      have hB1 := out_ret hB1 hy1
      cases hB1
      exact Wk.tab ⟨Le.refl _, True.intro⟩ ⟨⟨_, rfl, .refl _⟩, True.intro⟩ rfl
  refine Ok.seq ?_
  refine Ok.region Tryz.tok ?_
  refine Ok.wk (Wk.tab (L := [(5, (.m 11)), (8, (.v (.slice none 0 0)))]) (H' := [(11, .mp true (List.map (fun p => (p.1, c_api_Page p.2)) v1))]) ⟨Le.refl _, Le.refl _, True.intro⟩ ⟨⟨_, rfl, .refl _⟩, True.intro⟩ rfl) ?_
  obtain ⟨v2, hv2, h⟩ := bindS h
  refine Ok.seqw ⟨Cat.tab [(8, (.o 39))], [(39, .own 120 2 (List.map c_api_Page v2))]⟩ ?_ ?_
  · refine Ok.seq ?_
    refine Ok.region Tryz.tok ?_
    refine CallOk.keys (D := 27) Tryz.keysS99 Tryz.enters99 rfl rfl rfl ?_
    obtain ⟨hc3, hv2⟩ := chk_some hv2
    obtain ⟨x3, hx3, hv2⟩ := bindS hv2
    refine CallOk.sortedKeys (D := 27) (D2 := 28) Tryz.sortedS29_116 Tryz.enters29 rfl rfl (klen hc3) (ksort hx3) rfl ?_
    refine ⟨_, List.length_map _, fun _ => ?_⟩
    refine Ok.wk (Wk.tab (L := [(5, (.m 11)), (8, (.v (.slice none 0 0))), (28, (.o 28)), (29, (vi ((x3.length : Int)))), (30, (vi (0)))]) (H' := [(11, .mp true (List.map (fun p => (p.1, c_api_Page p.2)) v1)), (28, .own 3 1 (List.map Go.Cat.encI x3))]) ⟨Le.refl _, Le.refl _, Le.refl _, Le.refl _, Le.refl _, True.intro⟩ ⟨⟨_, rfl, .refl _⟩, ⟨_, rfl, .refl _⟩, True.intro⟩ rfl) ?_
    refine Ok.block ?_
    refine Ok.loop (fun (s2 : Int × (List api_Page)) => ⟨Cat.tab [(5, (.m 11)), (8, (.o 39)), (28, (.o 28)), (29, (vi ((x3.length : Int)))), (30, (vi s2.1))], [(11, .mp true (List.map (fun p => (p.1, c_api_Page p.2)) v1)), (39, .own 120 2 (List.map c_api_Page s2.2)), (28, .own 3 1 (List.map Go.Cat.encI x3))]⟩) (disk_laid_B2 x3 v1) (s0 := (0, [])) hv2 ((Wk.own0 (t := 8) (id := 39) (E := 120) (K := 2) rfl rfl).trans (Wk.tab ⟨Le.refl _, Le.refl _, Le.refl _, Le.refl _, Le.refl _, True.intro⟩ ⟨⟨_, rfl, .refl _⟩, ⟨_, rfl, .refl _⟩, ⟨_, rfl, .refl _⟩, True.intro⟩ rfl)) ?_
    intro s2 y2 hB2 hy2
    unfold disk_laid_B2 at hB2
    refine Ok.seq ?_
    refine Ok.region Tryz.tok ?_
    refine Ok.wk (Wk.tab (L := [(5, (.m 11)), (8, (.o 39)), (28, (.o 28)), (29, (vi ((x3.length : Int)))), (30, (vi s2.1)), (31, (vb ((decide (s2.1 < (x3.length : Int))))))]) (H' := [(11, .mp true (List.map (fun p => (p.1, c_api_Page p.2)) v1)), (39, .own 120 2 (List.map c_api_Page s2.2)), (28, .own 3 1 (List.map Go.Cat.encI x3))]) ⟨Le.refl _, Le.refl _, Le.refl _, Le.refl _, Le.refl _, Le.refl _, True.intro⟩ ⟨⟨_, rfl, .refl _⟩, ⟨_, rfl, .refl _⟩, ⟨_, rfl, .refl _⟩, True.intro⟩ rfl) ?_
    refine Ok.seq ?_
    refine Ok.cond (d := 31) (b := (decide (s2.1 < (x3.length : Int)))) rfl hB2 (fun hb hB2 => ?_) fun hb hB2 => ?_
    · refine Ok.skip ?_
      refine Ok.seq ?_
      refine Ok.block ?_
      refine Ok.seq ?_
      refine Ok.region Tryz.tok ?_
      obtain ⟨x4, hx4, hB2⟩ := bindS hB2
      refine ⟨_, idx_nat hx4, idx_ltm hx4, ⟨_, idx_row hx4, rfl, _, rfl, ?_⟩⟩
      refine Ok.wk (Wk.tab (L := [(5, (.m 11)), (8, (.o 39)), (10, (vi x4)), (28, (.o 28)), (29, (vi ((x3.length : Int)))), (30, (vi s2.1))]) (H' := [(11, .mp true (List.map (fun p => (p.1, c_api_Page p.2)) v1)), (39, .own 120 2 (List.map c_api_Page s2.2)), (28, .own 3 1 (List.map Go.Cat.encI x3))]) ⟨Le.refl _, Le.refl _, Le.refl _, Le.refl _, Le.refl _, Le.refl _, True.intro⟩ ⟨⟨_, rfl, .refl _⟩, ⟨_, rfl, .refl _⟩, ⟨_, rfl, .refl _⟩, True.intro⟩ rfl) ?_
      refine Ok.region Tryz.tok ?_
      obtain ⟨x5, hx5, hB2⟩ := bindS hB2
      obtain ⟨hc4, hB2⟩ := chk_some hB2
      refine ⟨_, lk_val c_api_Page (z := ((⟨0, []⟩ : api_Page) : api_Page)) hx5, Or.inl ⟨rowsLen_map (f := c_api_Page) (n := 2) (fun _ => rfl) ([x5]), app_b2 (f := c_api_Page) (l := s2.2) (l' := ([x5])) hc4, _, (List.map_append (f := c_api_Page) (l₁ := s2.2) (l₂ := ([x5]))).symm, ?_⟩⟩
      refine Ok.wk (Wk.tab (L := [(5, (.m 11)), (8, (.o 39)), (28, (.o 28)), (29, (vi ((x3.length : Int)))), (30, (vi s2.1))]) (H' := [(11, .mp true (List.map (fun p => (p.1, c_api_Page p.2)) v1)), (39, .own 120 2 (List.map c_api_Page ((s2.2 ++ [x5])))), (28, .own 3 1 (List.map Go.Cat.encI x3))]) ⟨Le.refl _, Le.refl _, Le.refl _, Le.refl _, Le.refl _, True.intro⟩ ⟨⟨_, rfl, .refl _⟩, ⟨_, rfl, .refl _⟩, ⟨_, rfl, .refl _⟩, True.intro⟩ rfl) ?_
      refine Ok.region Tryz.tok ?_
      obtain ⟨hc5, hB2⟩ := chk_some hB2
      refine (Or.inl ⟨hc5, ?_⟩)
      exact ⟨_, (Option.some.inj hB2).symm, Wk.tab ⟨Le.refl _, Le.refl _, Le.refl _, Le.refl _, Le.refl _, True.intro⟩ ⟨⟨_, rfl, .refl _⟩, ⟨_, rfl, .refl _⟩, ⟨_, rfl, .refl _⟩, True.intro⟩ rfl⟩
    · refine Ok.exit ?_
      have hB2 := out_ret hB2 hy2
      cases hB2
      exact Wk.tab ⟨Le.refl _, True.intro⟩ ⟨⟨_, rfl, .refl _⟩, True.intro⟩ rfl
  refine Ok.seq ?_
  refine Ok.region Tryz.tok ?_
  refine Ok.wk (Wk.tab (L := [(4, (.o 39))]) (H' := [(39, .own 120 2 (List.map c_api_Page v2))]) ⟨Le.refl _, True.intro⟩ ⟨⟨_, rfl, .refl _⟩, True.intro⟩ rfl) ?_
  refine Ok.ret ?_
  cases h
  exact (.inr ⟨_, rfl, rfl⟩)
theorem w_disk_laid [Off] {p_l : List api_Page} {p_over : List api_Page} {r : (List api_Page)} (h : disk_laid p_l p_over = some r) : Pure Tryz.prog 75 [(.s (List.map c_api_Page p_l)), (.s (List.map c_api_Page p_over))] (.s (List.map c_api_Page r)) := (wo_disk_laid h).pure

theorem w_disk_Sync [Off] {p_d : api_Disk} {r : api_Disk × Int} (h : disk_Sync p_d = some r) : Pure Tryz.prog 45 [(.a [(.s (List.map c_api_Page p_d.Synced)), (.s (List.map c_api_Page p_d.Loose)), (vb p_d.Down)])] (.t [(.a [(.s (List.map c_api_Page r.1.Synced)), (.s (List.map c_api_Page r.1.Loose)), (vb r.1.Down)]), (vi r.2)]) := by
  refine pure_of_ok (n := 13) (c := (Tryz.f45.body.getD .skip)) Tryz.tok Tryz.func45 (by kernel_rfl) rfl rfl (Nat.le_of_ble_eq_true rfl) ?_
  unfold disk_Sync at h
  refine Ok.wk (Wk.tab (L := [(0, (.a [(.s (List.map c_api_Page p_d.Synced)), (.s (List.map c_api_Page p_d.Loose)), (vb p_d.Down)]))]) (H' := []) ⟨Le.refl _, True.intro⟩ True.intro rfl) ?_
  refine Ok.seq ?_
  refine Ok.region Tryz.tok ?_
  refine Ok.wk (Wk.tab (L := [(1, (.b 1 0)), (2, (.b 2 0))]) (H' := [(1, .box [(.s (List.map c_api_Page p_d.Synced)), (.s (List.map c_api_Page p_d.Loose)), (vb p_d.Down)]), (2, .box [(.v (.slice none 0 0)), (.v (.slice none 0 0)), (vb false)])]) ⟨Le.refl _, Le.refl _, True.intro⟩ ⟨⟨_, rfl, .refl _⟩, ⟨_, rfl, .refl _⟩, True.intro⟩ rfl) ?_
  refine Ok.seq ?_
  refine Ok.seq ?_
  refine Ok.region Tryz.tok ?_
  refine ⟨_, rfl, ?_⟩
  refine Ok.wk (Wk.tab (L := [(1, (.b 1 0)), (2, (.b 2 0)), (5, (vb p_d.Down))]) (H' := [(1, .box [(.s (List.map c_api_Page p_d.Synced)), (.s (List.map c_api_Page p_d.Loose)), (vb p_d.Down)]), (2, .box [(.v (.slice none 0 0)), (.v (.slice none 0 0)), (vb false)])]) ⟨Le.refl _, Le.refl _, Le.refl _, True.intro⟩ ⟨⟨_, rfl, .refl _⟩, ⟨_, rfl, .refl _⟩, True.intro⟩ rfl) ?_
  refine Ok.cond (d := 5) (b := p_d.Down) rfl h (fun hb h => ?_) fun hb h => ?_
  · refine Ok.seq ?_
    refine Ok.region Tryz.tok ?_
    refine ⟨_, rfl, ⟨_, rfl, ?_⟩⟩
    refine Ok.wk (Wk.tab (L := [(2, (.b 2 0)), (3, (vi (40)))]) (H' := [(2, .box [(.s (List.map c_api_Page p_d.Synced)), (.s (List.map c_api_Page p_d.Loose)), (vb p_d.Down)])]) ⟨Le.refl _, Le.refl _, True.intro⟩ ⟨⟨_, rfl, .refl _⟩, True.intro⟩ rfl) ?_
    refine Ok.ret ?_
    cases h
    exact ⟨_, rfl, (Fz.t (.cons (Fz.imm rfl) (.cons Fz.v .nil)))⟩
  · refine Ok.skip ?_
    refine Ok.seq ?_
    refine Ok.region Tryz.tok ?_
    obtain ⟨x1, hx1, h⟩ := bindS h
    refine ⟨_, rfl, ⟨_, rfl, ?_⟩⟩
    refine CallOk.call (w_disk_laid hx1) (LeL.refl _) ?_
    refine ⟨_, rfl, ?_⟩
    refine Ok.wk (Wk.tab (L := [(2, (.b 2 0)), (3, (vi (0)))]) (H' := [(2, .box [(.s (List.map c_api_Page x1)), (.v (.slice none 0 0)), (vb false)])]) ⟨Le.refl _, Le.refl _, True.intro⟩ ⟨⟨_, rfl, .refl _⟩, True.intro⟩ rfl) ?_
    refine Ok.ret ?_
    cases h
    exact ⟨_, rfl, (Fz.t (.cons (Fz.a (.cons Fz.s (.cons Fz.nil (.cons Fz.v .nil)))) (.cons Fz.v .nil)))⟩

theorem w_law29_on [Off] {p_l : List Int} {r : api_Disk} (h : law29_on p_l = some r) : Pure Tryz.prog 19 [(.s (List.map Go.Cat.encI p_l))] (.a [(.s (List.map c_api_Page r.Synced)), (.s (List.map c_api_Page r.Loose)), (vb r.Down)]) := by
  refine pure_of_ok (n := 44) (c := (Tryz.f19.body.getD .skip)) Tryz.tok Tryz.func19 (by kernel_rfl) rfl rfl (Nat.le_of_ble_eq_true rfl) ?_
  unfold law29_on at h
  refine Ok.wk (Wk.tab (L := [(0, (.s (List.map Go.Cat.encI p_l)))]) (H' := []) ⟨Le.refl _, True.intro⟩ True.intro rfl) ?_
  refine Ok.seq ?_
  refine Ok.region Tryz.tok ?_
  refine Ok.wk (Wk.tab (L := [(0, (.s (List.map Go.Cat.encI p_l))), (2, (.b 2 0))]) (H' := [(2, .box [(.v (.slice none 0 0)), (.v (.slice none 0 0)), (vb false)])]) ⟨Le.refl _, Le.refl _, True.intro⟩ ⟨⟨_, rfl, .refl _⟩, True.intro⟩ rfl) ?_
  refine Ok.seq ?_
  refine Ok.region Tryz.tok ?_
  obtain ⟨x1, hx1, h⟩ := bindS h
  refine CallOk.call (w_disk_New hx1) (LeL.refl _) ?_
  refine ⟨_, rfl, ?_⟩
  refine Ok.wk (Wk.tab (L := [(0, (.s (List.map Go.Cat.encI p_l))), (2, (.b 2 0)), (3, (.b 3 0))]) (H' := [(2, .box [(.v (.slice none 0 0)), (.v (.slice none 0 0)), (vb false)]), (3, .box [(.s (List.map c_api_Page x1.Synced)), (.s (List.map c_api_Page x1.Loose)), (vb x1.Down)])]) ⟨Le.refl _, Le.refl _, Le.refl _, True.intro⟩ ⟨⟨_, rfl, .refl _⟩, ⟨_, rfl, .refl _⟩, True.intro⟩ rfl) ?_
  obtain ⟨v1, hv1, h⟩ := bindS h
  refine Ok.seqw ⟨Cat.tab [(2, (.b 2 0)), (3, (.b 3 0))], [(2, .box [(.v (.slice none 0 0)), (.v (.slice none 0 0)), (vb false)]), (3, .box [(.s (List.map c_api_Page v1.1)), (.s (List.map c_api_Page v1.2.1)), (vb v1.2.2)])]⟩ ?_ ?_
  · refine Ok.seq ?_
    refine Ok.region Tryz.tok ?_
    refine Ok.wk (Wk.tab (L := [(0, (.s (List.map Go.Cat.encI p_l))), (2, (.b 2 0)), (3, (.b 3 0)), (4, (vi (0)))]) (H' := [(2, .box [(.v (.slice none 0 0)), (.v (.slice none 0 0)), (vb false)]), (3, .box [(.s (List.map c_api_Page x1.Synced)), (.s (List.map c_api_Page x1.Loose)), (vb x1.Down)])]) ⟨Le.refl _, Le.refl _, Le.refl _, Le.refl _, True.intro⟩ ⟨⟨_, rfl, .refl _⟩, ⟨_, rfl, .refl _⟩, True.intro⟩ rfl) ?_
    refine Ok.block ?_
    refine Ok.loop (fun (s1 : Int × (List api_Page) × (List api_Page) × Bool) => ⟨Cat.tab [(0, (.s (List.map Go.Cat.encI p_l))), (2, (.b 2 0)), (3, (.b 3 0)), (4, (vi s1.1))], [(2, .box [(.v (.slice none 0 0)), (.v (.slice none 0 0)), (vb false)]), (3, .box [(.s (List.map c_api_Page s1.2.1)), (.s (List.map c_api_Page s1.2.2.1)), (vb s1.2.2.2)])]⟩) (law29_on_B1 p_l) (s0 := (0, x1.Synced, x1.Loose, x1.Down)) hv1 (Wk.tab ⟨Le.refl _, Le.refl _, Le.refl _, Le.refl _, True.intro⟩ ⟨⟨_, rfl, .refl _⟩, ⟨_, rfl, .refl _⟩, True.intro⟩ rfl) ?_
    intro s1 y1 hB1 hy1
    unfold law29_on_B1 at hB1
    refine Ok.seq ?_
    refine Ok.seq ?_
    refine Ok.region Tryz.tok ?_
    refine ⟨_, List.length_map _, fun _ => ?_⟩
    refine Ok.wk (Wk.tab (L := [(0, (.s (List.map Go.Cat.encI p_l))), (2, (.b 2 0)), (3, (.b 3 0)), (4, (vi s1.1)), (13, (vb ((decide (s1.1 < (p_l.length : Int))))))]) (H' := [(2, .box [(.v (.slice none 0 0)), (.v (.slice none 0 0)), (vb false)]), (3, .box [(.s (List.map c_api_Page s1.2.1)), (.s (List.map c_api_Page s1.2.2.1)), (vb s1.2.2.2)])]) ⟨Le.refl _, Le.refl _, Le.refl _, Le.refl _, Le.refl _, True.intro⟩ ⟨⟨_, rfl, .refl _⟩, ⟨_, rfl, .refl _⟩, True.intro⟩ rfl) ?_
    refine Ok.cond (d := 13) (b := (decide (s1.1 < (p_l.length : Int)))) rfl hB1 (fun hb hB1 => ?_) fun hb hB1 => ?_
    · refine Ok.skip ?_
      obtain ⟨v2, hv2, hB1⟩ := bindS hB1
      refine Ok.seqw ⟨Cat.tab [(0, (.s (List.map Go.Cat.encI p_l))), (2, (.b 2 0)), (3, (.b 3 0)), (4, (vi s1.1))], [(2, .box [(.v (.slice none 0 0)), (.v (.slice none 0 0)), (vb false)]), (3, .box [(.s (List.map c_api_Page v2.1)), (.s (List.map c_api_Page v2.2.1)), (vb v2.2.2)])]⟩ ?_ ?_
      · refine Ok.block ?_
        refine Ok.seq ?_
        refine Ok.draw2 (m := 17) (late := [15]) (MD := ⟨[]⟩) (CH := ⟨[]⟩) Tryz.tok Tryz.mixed (by kernel_rfl) ?_
        obtain ⟨x2, hx2, hv2⟩ := bindS hv2
        obtain ⟨x3, hx3, hv2⟩ := bindS hv2
        obtain ⟨x4, hx4, hv2⟩ := bindS hv2
        obtain ⟨x5, hx5, hv2⟩ := bindS hv2
        refine ⟨_, ⟨_, rfl, rfl⟩, ⟨_, rfl, ⟨_, rfl, ⟨_, ⟨_, idx_nat hx2, _, idx_row hx2, rfl⟩, ⟨_, ⟨_, rfl, rfl⟩, ⟨_, rfl, ⟨_, rfl, ⟨_, ⟨_, idx_nat hx3, _, idx_row hx3, rfl⟩, ⟨_, ⟨_, rfl, rfl⟩, ⟨_, ⟨_, (toU8_wrap _), rfl⟩, ⟨_, rfl, ⟨_, ⟨_, .of_pure (w_chunk_New hx4) (LeL.refl _), rfl⟩, ⟨_, ⟨_, .of_pure (w_chunk_Put hx5) (LeL.refl _), rfl⟩, ⟨_, rfl, ⟨_, rfl, ⟨_, rfl, ⟨True.intro, ?_⟩⟩⟩⟩⟩⟩⟩⟩⟩⟩⟩⟩⟩⟩⟩⟩⟩
        refine ⟨_, rfl, ⟨⟨⟨_, rfl, rfl⟩, True.intro⟩, ?_⟩⟩
        refine Ok.wk (Wk.tab (L := [(0, (.s (List.map Go.Cat.encI p_l))), (2, (.b 2 0)), (3, (.b 3 0)), (4, (vi s1.1)), (5, (.b 5 0)), (6, (vi x5.2))]) (H' := [(2, .box [(.v (.slice none 0 0)), (.v (.slice none 0 0)), (vb false)]), (3, .box [(.s (List.map c_api_Page s1.2.1)), (.s (List.map c_api_Page s1.2.2.1)), (vb s1.2.2.2)]), (5, .box [(.s (List.map c_api_Page x5.1.Synced)), (.s (List.map c_api_Page x5.1.Loose)), (vb x5.1.Down)])]) ⟨Le.refl _, Le.refl _, Le.refl _, Le.refl _, Le.refl _, Le.refl _, True.intro⟩ ⟨⟨_, rfl, .refl _⟩, ⟨_, rfl, .refl _⟩, ⟨_, rfl, .refl _⟩, True.intro⟩ rfl) ?_
        refine Ok.seq ?_
        refine Ok.region Tryz.tok ?_
        refine Ok.wk (Wk.tab (L := [(0, (.s (List.map Go.Cat.encI p_l))), (2, (.b 2 0)), (3, (.b 3 0)), (4, (vi s1.1)), (5, (.b 5 0)), (33, (vb ((x5.2 == 0))))]) (H' := [(2, .box [(.v (.slice none 0 0)), (.v (.slice none 0 0)), (vb false)]), (3, .box [(.s (List.map c_api_Page s1.2.1)), (.s (List.map c_api_Page s1.2.2.1)), (vb s1.2.2.2)]), (5, .box [(.s (List.map c_api_Page x5.1.Synced)), (.s (List.map c_api_Page x5.1.Loose)), (vb x5.1.Down)])]) ⟨Le.refl _, Le.refl _, Le.refl _, Le.refl _, Le.refl _, Le.refl _, True.intro⟩ ⟨⟨_, rfl, .refl _⟩, ⟨_, rfl, .refl _⟩, ⟨_, rfl, .refl _⟩, True.intro⟩ rfl) ?_
        refine Ok.cond (d := 33) (b := (x5.2 == 0)) rfl hv2 (fun hb hv2 => ?_) fun hb hv2 => ?_
        · refine Ok.region Tryz.tok ?_
          refine ⟨_, rfl, ⟨_, rfl, ?_⟩⟩
          cases hv2
          exact Wk.tab ⟨Le.refl _, Le.refl _, Le.refl _, Le.refl _, True.intro⟩ ⟨⟨_, rfl, .refl _⟩, ⟨_, rfl, .refl _⟩, True.intro⟩ rfl
        · refine Ok.skip ?_
          cases hv2
          exact Wk.tab ⟨Le.refl _, Le.refl _, Le.refl _, Le.refl _, True.intro⟩ ⟨⟨_, rfl, .refl _⟩, ⟨_, rfl, .refl _⟩, True.intro⟩ rfl
      refine Ok.region Tryz.tok ?_
      obtain ⟨hc1, hB1⟩ := chk_some hB1
      refine (Or.inl ⟨hc1, ?_⟩)
      exact ⟨_, (Option.some.inj hB1).symm, Wk.tab ⟨Le.refl _, Le.refl _, Le.refl _, Le.refl _, True.intro⟩ ⟨⟨_, rfl, .refl _⟩, ⟨_, rfl, .refl _⟩, True.intro⟩ rfl⟩
    · refine Ok.exit ?_
      have hB1 := out_ret hB1 hy1
      cases hB1
      exact Wk.tab ⟨Le.refl _, Le.refl _, True.intro⟩ ⟨⟨_, rfl, .refl _⟩, ⟨_, rfl, .refl _⟩, True.intro⟩ rfl
  refine Ok.seq ?_
  refine Ok.region Tryz.tok ?_
  obtain ⟨x6, hx6, h⟩ := bindS h
  refine ⟨_, rfl, ?_⟩
  refine CallOk.call (w_disk_Sync hx6) (LeL.refl _) ?_
  refine ⟨_, rfl, ?_⟩
  refine Ok.wk (Wk.tab (L := [(2, (.b 2 0)), (3, (.b 3 0)), (7, (.b 7 0)), (8, (vi x6.2))]) (H' := [(2, .box [(.v (.slice none 0 0)), (.v (.slice none 0 0)), (vb false)]), (3, .box [(.s (List.map c_api_Page v1.1)), (.s (List.map c_api_Page v1.2.1)), (vb v1.2.2)]), (7, .box [(.s (List.map c_api_Page x6.1.Synced)), (.s (List.map c_api_Page x6.1.Loose)), (vb x6.1.Down)])]) ⟨Le.refl _, Le.refl _, Le.refl _, Le.refl _, True.intro⟩ ⟨⟨_, rfl, .refl _⟩, ⟨_, rfl, .refl _⟩, ⟨_, rfl, .refl _⟩, True.intro⟩ rfl) ?_
  refine Ok.seq ?_
  refine Ok.seq ?_
  refine Ok.region Tryz.tok ?_
  refine Ok.wk (Wk.tab (L := [(2, (.b 2 0)), (3, (.b 3 0)), (7, (.b 7 0)), (41, (vb ((x6.2 != 0))))]) (H' := [(2, .box [(.v (.slice none 0 0)), (.v (.slice none 0 0)), (vb false)]), (3, .box [(.s (List.map c_api_Page v1.1)), (.s (List.map c_api_Page v1.2.1)), (vb v1.2.2)]), (7, .box [(.s (List.map c_api_Page x6.1.Synced)), (.s (List.map c_api_Page x6.1.Loose)), (vb x6.1.Down)])]) ⟨Le.refl _, Le.refl _, Le.refl _, Le.refl _, True.intro⟩ ⟨⟨_, rfl, .refl _⟩, ⟨_, rfl, .refl _⟩, ⟨_, rfl, .refl _⟩, True.intro⟩ rfl) ?_
  refine Ok.cond (d := 41) (b := (x6.2 != 0)) rfl h (fun hb h => ?_) fun hb h => ?_
  · refine Ok.seq ?_
    refine Ok.region Tryz.tok ?_
    refine ⟨_, rfl, ⟨_, rfl, ?_⟩⟩
    refine Ok.wk (Wk.tab (L := [(2, (.b 2 0))]) (H' := [(2, .box [(.s (List.map c_api_Page v1.1)), (.s (List.map c_api_Page v1.2.1)), (vb v1.2.2)])]) ⟨Le.refl _, True.intro⟩ ⟨⟨_, rfl, .refl _⟩, True.intro⟩ rfl) ?_
    refine Ok.ret ?_
    cases h
    exact ⟨_, rfl, (Fz.imm rfl)⟩
  · refine Ok.skip ?_
    refine Ok.seq ?_
    refine Ok.region Tryz.tok ?_
    refine ⟨_, rfl, ⟨_, rfl, ?_⟩⟩
    refine Ok.wk (Wk.tab (L := [(2, (.b 2 0))]) (H' := [(2, .box [(.s (List.map c_api_Page x6.1.Synced)), (.s (List.map c_api_Page x6.1.Loose)), (vb x6.1.Down)])]) ⟨Le.refl _, True.intro⟩ ⟨⟨_, rfl, .refl _⟩, True.intro⟩ rfl) ?_
    refine Ok.ret ?_
    cases h
    exact ⟨_, rfl, (Fz.imm rfl)⟩

theorem wg_sweep_open {p_leases : List api_Lease} {p_now : Int} {r : Unit} (h : sweep_open p_leases p_now = some r) : CallOk Tryz.prog 23 [(.s (List.map c_api_Lease p_leases)), (vi p_now)] ⟨noSlots, []⟩ fun x s => x = (.c (.func 48) [] [(.b 2 0), (.b 3 0)]) ∧ s.H = [(2, .box [(.s (List.map c_api_Lease p_leases))]), (3, .box [(vi p_now)])] := by
  refine pgen_of_ok (n := 6) (c := (Tryz.f23.body.getD .skip)) Tryz.tok Tryz.func23 (by kernel_rfl) rfl rfl (Nat.le_of_ble_eq_true rfl) ?_
  unfold sweep_open at h
  refine Ok.wk (Wk.tab (L := [(0, (.s (List.map c_api_Lease p_leases))), (1, (vi p_now))]) (H' := []) ⟨Le.refl _, Le.refl _, True.intro⟩ True.intro rfl) ?_
  refine Ok.seq ?_
  refine Ok.region Tryz.tok ?_
  refine Ok.wk (Wk.tab (L := [(2, (.b 2 0)), (3, (.b 3 0))]) (H' := [(2, .box [(.s (List.map c_api_Lease p_leases))]), (3, .box [(vi p_now)])]) ⟨Le.refl _, Le.refl _, True.intro⟩ ⟨⟨_, rfl, .refl _⟩, ⟨_, rfl, .refl _⟩, True.intro⟩ rfl) ?_
  refine Ok.seq ?_
  refine Ok.region Tryz.tok ?_
  refine Ok.wk (Wk.tab (L := [(4, (.c (.func 48) [] [(.b 2 0), (.b 3 0)]))]) (H' := [(2, .box [(.s (List.map c_api_Lease p_leases))]), (3, .box [(vi p_now)])]) ⟨Le.refl _, True.intro⟩ ⟨⟨_, rfl, .refl _⟩, ⟨_, rfl, .refl _⟩, True.intro⟩ rfl) ?_
  refine Ok.ret ?_
  cases h
  exact Wk.tab ⟨Le.refl _, True.intro⟩ ⟨⟨_, rfl, .refl _⟩, ⟨_, rfl, .refl _⟩, True.intro⟩ rfl

theorem w_sweep_open_1_1 {p_l : api_Lease} {p_a1_0 : Int} {p_a1_1 : Int} {p_a1_2 : Int} {p_a2_0 : Int} {r : Bool} (h : sweep_open_1_1 p_l p_a1_0 p_a1_1 p_a1_2 p_a2_0 = some r) : Pure Tryz.prog 50 [(.a [(vi p_l.Client), (vi p_l.Ino), (vi p_l.Kind), (vi p_l.Span.From), (vi p_l.Span.To), (vi p_l.Until), (vi p_l.Epoch)]), (.p [(vi p_a1_0), (vi p_a1_1), (vi p_a1_2)]), (.p [(vi p_a2_0)])] (vb r) := by
  refine pure_of_ok (n := 28) (c := (Tryz.f50.body.getD .skip)) Tryz.tok Tryz.func50 (by kernel_rfl) rfl rfl (Nat.le_of_ble_eq_true rfl) ?_
  unfold sweep_open_1_1 at h
  refine Ok.wk (Wk.tab (L := [(0, (.a [(vi p_l.Client), (vi p_l.Ino), (vi p_l.Kind), (vi p_l.Span.From), (vi p_l.Span.To), (vi p_l.Until), (vi p_l.Epoch)])), (1, (.p [(vi p_a1_0), (vi p_a1_1), (vi p_a1_2)])), (2, (.p [(vi p_a2_0)]))]) (H' := []) ⟨Le.refl _, Le.refl _, Le.refl _, True.intro⟩ True.intro rfl) ?_
  refine Ok.seq ?_
  refine Ok.region Tryz.tok ?_
  refine Ok.wk (Wk.tab (L := [(1, (.p [(vi p_a1_0), (vi p_a1_1), (vi p_a1_2)])), (2, (.p [(vi p_a2_0)])), (3, (.b 3 0))]) (H' := [(3, .box [(vi p_l.Client), (vi p_l.Ino), (vi p_l.Kind), (vi p_l.Span.From), (vi p_l.Span.To), (vi p_l.Until), (vi p_l.Epoch)])]) ⟨Le.refl _, Le.refl _, Le.refl _, True.intro⟩ ⟨⟨_, rfl, .refl _⟩, True.intro⟩ rfl) ?_
  obtain ⟨v1, hv1, h⟩ := bindS h
  refine Ok.seqw ⟨Cat.tab [(4, (vb v1))], []⟩ ?_ ?_
  · refine Ok.region Tryz.tok ?_
    refine ⟨_, rfl, ⟨_, rfl, ?_⟩⟩
    obtain ⟨c1, hg1, hv1⟩ := bindS hv1
    refine Br.ite hg1 (fun hb hg1 => ?_) fun hb hg1 => ?_
    · refine ⟨_, rfl, ⟨_, rfl, ?_⟩⟩
      cases hg1
      obtain ⟨c2, hg2, hv1⟩ := bindS hv1
      refine Br.ite hg2 (fun hb hg2 => ?_) fun hb hg2 => ?_
      · refine ⟨_, rfl, ?_⟩
        cases hg2
        obtain ⟨c3, hg3, hv1⟩ := bindS hv1
        refine Br.ite hg3 (fun hb hg3 => ?_) fun hb hg3 => ?_
        · refine ⟨_, rfl, ⟨_, rfl, ?_⟩⟩
          cases hg3
          cases hv1
          exact Wk.tab ⟨Le.refl _, True.intro⟩ True.intro rfl
        · cases hg3
          cases hv1
          exact Wk.tab ⟨Le.refl _, True.intro⟩ True.intro rfl
      · cases hg2
        obtain ⟨c3, hg4, hv1⟩ := bindS hv1
        replace hg4 := iteF hg4
        cases hg4
        cases hv1
        exact Wk.tab ⟨Le.refl _, True.intro⟩ True.intro rfl
    · cases hg1
      obtain ⟨c2, hg5, hv1⟩ := bindS hv1
      replace hg5 := iteF hg5
      cases hg5
      obtain ⟨c3, hg6, hv1⟩ := bindS hv1
      replace hg6 := iteF hg6
      cases hg6
      cases hv1
      exact Wk.tab ⟨Le.refl _, True.intro⟩ True.intro rfl
  refine Ok.ret ?_
  cases h
  exact Fz.v

theorem w_slices_IndexFunc_api_Lease_api_Lease__sweep_open_1_1 {p_s : List api_Lease} {p_f_c0_0 : Int} {p_f_c0_1 : Int} {p_f_c0_2 : Int} {p_f_c1_0 : Int} {r : Int} (h : slices_IndexFunc_api_Lease_api_Lease__sweep_open_1_1 p_s p_f_c0_0 p_f_c0_1 p_f_c0_2 p_f_c1_0 = some r) : Pure Tryz.prog 77 [(.s (List.map c_api_Lease p_s)), (.c (.func 50) [] [(.p [(vi p_f_c0_0), (vi p_f_c0_1), (vi p_f_c0_2)]), (.p [(vi p_f_c1_0)])])] (vi r) := by
  refine pure_of_ok (n := 19) (c := (Tryz.f77.body.getD .skip)) Tryz.tok Tryz.func77 (by kernel_rfl) rfl rfl (Nat.le_of_ble_eq_true rfl) ?_
  unfold slices_IndexFunc_api_Lease_api_Lease__sweep_open_1_1 at h
  refine Ok.wk (Wk.tab (L := [(0, (.s (List.map c_api_Lease p_s))), (1, (.c (.func 50) [] [(.p [(vi p_f_c0_0), (vi p_f_c0_1), (vi p_f_c0_2)]), (.p [(vi p_f_c1_0)])]))]) (H' := []) ⟨Le.refl _, Le.refl _, True.intro⟩ True.intro rfl) ?_
  refine Ok.seq ?_
  refine Ok.region Tryz.tok ?_
  refine Ok.wk (Wk.tab (L := [(0, (.s (List.map c_api_Lease p_s))), (1, (.c (.func 50) [] [(.p [(vi p_f_c0_0), (vi p_f_c0_1), (vi p_f_c0_2)]), (.p [(vi p_f_c1_0)])]))]) (H' := []) ⟨Le.refl _, Le.refl _, True.intro⟩ True.intro rfl) ?_
  refine Ok.seqj (fun v1 => ⟨Cat.tab [], []⟩) (fun v1 => slices_IndexFunc_api_Lease_api_Lease__sweep_open_1_1_J1 v1 = some r) ?_ ?_
  · refine Ok.seq ?_
    refine Ok.region Tryz.tok ?_
    refine ⟨_, List.length_map _, fun _ => ?_⟩
    refine Ok.wk (Wk.tab (L := [(0, (.s (List.map c_api_Lease p_s))), (1, (.c (.func 50) [] [(.p [(vi p_f_c0_0), (vi p_f_c0_1), (vi p_f_c0_2)]), (.p [(vi p_f_c1_0)])])), (7, (vi ((p_s.length : Int)))), (8, (vi (0)))]) (H' := []) ⟨Le.refl _, Le.refl _, Le.refl _, Le.refl _, True.intro⟩ True.intro rfl) ?_
    refine Ok.block ?_
    refine Ok.loop (fun (s1 : Int) => ⟨Cat.tab [(0, (.s (List.map c_api_Lease p_s))), (1, (.c (.func 50) [] [(.p [(vi p_f_c0_0), (vi p_f_c0_1), (vi p_f_c0_2)]), (.p [(vi p_f_c1_0)])])), (7, (vi ((p_s.length : Int)))), (8, (vi s1))], []⟩) (slices_IndexFunc_api_Lease_api_Lease__sweep_open_1_1_B1 p_s p_f_c0_0 p_f_c0_1 p_f_c0_2 p_f_c1_0) (s0 := 0) h (Wk.tab ⟨Le.refl _, Le.refl _, Le.refl _, Le.refl _, True.intro⟩ True.intro rfl) ?_
    intro s1 y1 hB1 hy1
    unfold slices_IndexFunc_api_Lease_api_Lease__sweep_open_1_1_B1 at hB1
    refine Ok.seq ?_
    refine Ok.region Tryz.tok ?_
    refine Ok.wk (Wk.tab (L := [(0, (.s (List.map c_api_Lease p_s))), (1, (.c (.func 50) [] [(.p [(vi p_f_c0_0), (vi p_f_c0_1), (vi p_f_c0_2)]), (.p [(vi p_f_c1_0)])])), (7, (vi ((p_s.length : Int)))), (8, (vi s1)), (9, (vb ((decide (s1 < (p_s.length : Int))))))]) (H' := []) ⟨Le.refl _, Le.refl _, Le.refl _, Le.refl _, Le.refl _, True.intro⟩ True.intro rfl) ?_
    refine Ok.seq ?_
    refine Ok.cond (d := 9) (b := (decide (s1 < (p_s.length : Int)))) rfl hB1 (fun hb hB1 => ?_) fun hb hB1 => ?_
    · refine Ok.skip ?_
      refine Ok.seq ?_
      refine Ok.block ?_
      refine Ok.seq ?_
      refine Ok.region Tryz.tok ?_
      refine Ok.wk (Wk.tab (L := [(0, (.s (List.map c_api_Lease p_s))), (1, (.c (.func 50) [] [(.p [(vi p_f_c0_0), (vi p_f_c0_1), (vi p_f_c0_2)]), (.p [(vi p_f_c1_0)])])), (5, (vi s1)), (7, (vi ((p_s.length : Int)))), (8, (vi s1))]) (H' := []) ⟨Le.refl _, Le.refl _, Le.refl _, Le.refl _, Le.refl _, True.intro⟩ True.intro rfl) ?_
      refine Ok.seq ?_
      refine Ok.region Tryz.tok ?_
      obtain ⟨x1, hx1, hB1⟩ := bindS hB1
      obtain ⟨x2, hx2, hB1⟩ := bindS hB1
      refine ⟨_, idx_nat hx1, _, idx_row hx1, ⟨_, rfl, ?_⟩⟩
      refine CallOk.call (w_sweep_open_1_1 hx2) (LeL.refl _) ?_
      refine Ok.wk (Wk.tab (L := [(0, (.s (List.map c_api_Lease p_s))), (1, (.c (.func 50) [] [(.p [(vi p_f_c0_0), (vi p_f_c0_1), (vi p_f_c0_2)]), (.p [(vi p_f_c1_0)])])), (5, (vi s1)), (7, (vi ((p_s.length : Int)))), (8, (vi s1)), (16, (vb x2))]) (H' := []) ⟨Le.refl _, Le.refl _, Le.refl _, Le.refl _, Le.refl _, Le.refl _, True.intro⟩ True.intro rfl) ?_
      refine Ok.cond (d := 16) (b := x2) rfl hB1 (fun hb hB1 => ?_) fun hb hB1 => ?_
      · refine Ok.seq ?_
        refine Ok.region Tryz.tok ?_
        refine Ok.wk (Wk.tab (L := [(4, (vi s1))]) (H' := []) ⟨Le.refl _, True.intro⟩ True.intro rfl) ?_
        refine Ok.ret ?_
        have hB1 := out_ret hB1 hy1
        cases hB1
        exact Fz.v
      · refine Ok.skip ?_
        refine Ok.region Tryz.tok ?_
        obtain ⟨hc1, hB1⟩ := chk_some hB1
        refine (Or.inl ⟨hc1, ?_⟩)
        exact ⟨_, (Option.some.inj hB1).symm, Wk.tab ⟨Le.refl _, Le.refl _, Le.refl _, Le.refl _, True.intro⟩ True.intro rfl⟩
    · refine Ok.exit ?_
      have hB1 := out_ret hB1 hy1
      exact ⟨_, hB1, Wk.tab True.intro True.intro rfl⟩
  intro v1 h
  unfold slices_IndexFunc_api_Lease_api_Lease__sweep_open_1_1_J1 at h
  refine Ok.seq ?_
  refine Ok.region Tryz.tok ?_
  refine Ok.wk (Wk.tab (L := [(4, (vi ((-1))))]) (H' := []) ⟨Le.refl _, True.intro⟩ True.intro rfl) ?_
  refine Ok.ret ?_
  cases h
  exact Fz.v

theorem w_slices_ContainsFunc_api_Lease_api_Lease__sweep_open_1_1 {p_s : List api_Lease} {p_f_c0 : api_Room} {p_f_c1_0 : Int} {r : Bool} (h : slices_ContainsFunc_api_Lease_api_Lease__sweep_open_1_1 p_s p_f_c0 p_f_c1_0 = some r) : Pure Tryz.prog 49 [(.s (List.map c_api_Lease p_s)), (.c (.func 50) [] [(.p [(vi p_f_c0.Id), (vi p_f_c0.Ino), (vi p_f_c0.Client)]), (.p [(vi p_f_c1_0)])])] (vb r) := by
  refine pure_of_ok (n := 9) (c := (Tryz.f49.body.getD .skip)) Tryz.tok Tryz.func49 (by kernel_rfl) rfl rfl (Nat.le_of_ble_eq_true rfl) ?_
  unfold slices_ContainsFunc_api_Lease_api_Lease__sweep_open_1_1 at h
  refine Ok.wk (Wk.tab (L := [(0, (.s (List.map c_api_Lease p_s))), (1, (.c (.func 50) [] [(.p [(vi p_f_c0.Id), (vi p_f_c0.Ino), (vi p_f_c0.Client)]), (.p [(vi p_f_c1_0)])]))]) (H' := []) ⟨Le.refl _, Le.refl _, True.intro⟩ True.intro rfl) ?_
  refine Ok.seq ?_
  refine Ok.region Tryz.tok ?_
  refine Ok.wk (Wk.tab (L := [(0, (.s (List.map c_api_Lease p_s))), (1, (.c (.func 50) [] [(.p [(vi p_f_c0.Id), (vi p_f_c0.Ino), (vi p_f_c0.Client)]), (.p [(vi p_f_c1_0)])]))]) (H' := []) ⟨Le.refl _, Le.refl _, True.intro⟩ True.intro rfl) ?_
  refine Ok.seq ?_
  refine Ok.region Tryz.tok ?_
  obtain ⟨x1, hx1, h⟩ := bindS h
  refine CallOk.call (w_slices_IndexFunc_api_Lease_api_Lease__sweep_open_1_1 hx1) (LeL.refl _) ?_
  refine Ok.wk (Wk.tab (L := [(4, (vb ((decide (x1 ≥ 0)))))]) (H' := []) ⟨Le.refl _, True.intro⟩ True.intro rfl) ?_
  refine Ok.ret ?_
  cases h
  exact Fz.v

theorem w_slices_IndexFunc_api_Lease_api_Lease__sweep_open_1_1_2 {p_s : List api_Lease} {p_f_c0 : api_Room} {p_f_c1_0 : Int} {r : Int} (h : slices_IndexFunc_api_Lease_api_Lease__sweep_open_1_1_2 p_s p_f_c0 p_f_c1_0 = some r) : Pure Tryz.prog 77 [(.s (List.map c_api_Lease p_s)), (.c (.func 50) [] [(.p [(vi p_f_c0.Id), (vi p_f_c0.Ino), (vi p_f_c0.Client)]), (.p [(vi p_f_c1_0)])])] (vi r) := by
  refine pure_of_ok (n := 19) (c := (Tryz.f77.body.getD .skip)) Tryz.tok Tryz.func77 (by kernel_rfl) rfl rfl (Nat.le_of_ble_eq_true rfl) ?_
  unfold slices_IndexFunc_api_Lease_api_Lease__sweep_open_1_1_2 at h
  refine Ok.wk (Wk.tab (L := [(0, (.s (List.map c_api_Lease p_s))), (1, (.c (.func 50) [] [(.p [(vi p_f_c0.Id), (vi p_f_c0.Ino), (vi p_f_c0.Client)]), (.p [(vi p_f_c1_0)])]))]) (H' := []) ⟨Le.refl _, Le.refl _, True.intro⟩ True.intro rfl) ?_
  refine Ok.seq ?_
  refine Ok.region Tryz.tok ?_
  refine Ok.wk (Wk.tab (L := [(0, (.s (List.map c_api_Lease p_s))), (1, (.c (.func 50) [] [(.p [(vi p_f_c0.Id), (vi p_f_c0.Ino), (vi p_f_c0.Client)]), (.p [(vi p_f_c1_0)])]))]) (H' := []) ⟨Le.refl _, Le.refl _, True.intro⟩ True.intro rfl) ?_
  refine Ok.seqj (fun v1 => ⟨Cat.tab [], []⟩) (fun v1 => slices_IndexFunc_api_Lease_api_Lease__sweep_open_1_1_2_J1 v1 = some r) ?_ ?_
  · refine Ok.seq ?_
    refine Ok.region Tryz.tok ?_
    refine ⟨_, List.length_map _, fun _ => ?_⟩
    refine Ok.wk (Wk.tab (L := [(0, (.s (List.map c_api_Lease p_s))), (1, (.c (.func 50) [] [(.p [(vi p_f_c0.Id), (vi p_f_c0.Ino), (vi p_f_c0.Client)]), (.p [(vi p_f_c1_0)])])), (7, (vi ((p_s.length : Int)))), (8, (vi (0)))]) (H' := []) ⟨Le.refl _, Le.refl _, Le.refl _, Le.refl _, True.intro⟩ True.intro rfl) ?_
    refine Ok.block ?_
    refine Ok.loop (fun (s1 : Int) => ⟨Cat.tab [(0, (.s (List.map c_api_Lease p_s))), (1, (.c (.func 50) [] [(.p [(vi p_f_c0.Id), (vi p_f_c0.Ino), (vi p_f_c0.Client)]), (.p [(vi p_f_c1_0)])])), (7, (vi ((p_s.length : Int)))), (8, (vi s1))], []⟩) (slices_IndexFunc_api_Lease_api_Lease__sweep_open_1_1_2_B1 p_s p_f_c0 p_f_c1_0) (s0 := 0) h (Wk.tab ⟨Le.refl _, Le.refl _, Le.refl _, Le.refl _, True.intro⟩ True.intro rfl) ?_
    intro s1 y1 hB1 hy1
    unfold slices_IndexFunc_api_Lease_api_Lease__sweep_open_1_1_2_B1 at hB1
    refine Ok.seq ?_
    refine Ok.region Tryz.tok ?_
    refine Ok.wk (Wk.tab (L := [(0, (.s (List.map c_api_Lease p_s))), (1, (.c (.func 50) [] [(.p [(vi p_f_c0.Id), (vi p_f_c0.Ino), (vi p_f_c0.Client)]), (.p [(vi p_f_c1_0)])])), (7, (vi ((p_s.length : Int)))), (8, (vi s1)), (9, (vb ((decide (s1 < (p_s.length : Int))))))]) (H' := []) ⟨Le.refl _, Le.refl _, Le.refl _, Le.refl _, Le.refl _, True.intro⟩ True.intro rfl) ?_
    refine Ok.seq ?_
    refine Ok.cond (d := 9) (b := (decide (s1 < (p_s.length : Int)))) rfl hB1 (fun hb hB1 => ?_) fun hb hB1 => ?_
    · refine Ok.skip ?_
      refine Ok.seq ?_
      refine Ok.block ?_
      refine Ok.seq ?_
      refine Ok.region Tryz.tok ?_
      refine Ok.wk (Wk.tab (L := [(0, (.s (List.map c_api_Lease p_s))), (1, (.c (.func 50) [] [(.p [(vi p_f_c0.Id), (vi p_f_c0.Ino), (vi p_f_c0.Client)]), (.p [(vi p_f_c1_0)])])), (5, (vi s1)), (7, (vi ((p_s.length : Int)))), (8, (vi s1))]) (H' := []) ⟨Le.refl _, Le.refl _, Le.refl _, Le.refl _, Le.refl _, True.intro⟩ True.intro rfl) ?_
      refine Ok.seq ?_
      refine Ok.region Tryz.tok ?_
      obtain ⟨x1, hx1, hB1⟩ := bindS hB1
      obtain ⟨x2, hx2, hB1⟩ := bindS hB1
      refine ⟨_, idx_nat hx1, _, idx_row hx1, ⟨_, rfl, ?_⟩⟩
      refine CallOk.call (w_sweep_open_1_1 hx2) (LeL.refl _) ?_
      refine Ok.wk (Wk.tab (L := [(0, (.s (List.map c_api_Lease p_s))), (1, (.c (.func 50) [] [(.p [(vi p_f_c0.Id), (vi p_f_c0.Ino), (vi p_f_c0.Client)]), (.p [(vi p_f_c1_0)])])), (5, (vi s1)), (7, (vi ((p_s.length : Int)))), (8, (vi s1)), (16, (vb x2))]) (H' := []) ⟨Le.refl _, Le.refl _, Le.refl _, Le.refl _, Le.refl _, Le.refl _, True.intro⟩ True.intro rfl) ?_
      refine Ok.cond (d := 16) (b := x2) rfl hB1 (fun hb hB1 => ?_) fun hb hB1 => ?_
      · refine Ok.seq ?_
        refine Ok.region Tryz.tok ?_
        refine Ok.wk (Wk.tab (L := [(4, (vi s1))]) (H' := []) ⟨Le.refl _, True.intro⟩ True.intro rfl) ?_
        refine Ok.ret ?_
        have hB1 := out_ret hB1 hy1
        cases hB1
        exact Fz.v
      · refine Ok.skip ?_
        refine Ok.region Tryz.tok ?_
        obtain ⟨hc1, hB1⟩ := chk_some hB1
        refine (Or.inl ⟨hc1, ?_⟩)
        exact ⟨_, (Option.some.inj hB1).symm, Wk.tab ⟨Le.refl _, Le.refl _, Le.refl _, Le.refl _, True.intro⟩ True.intro rfl⟩
    · refine Ok.exit ?_
      have hB1 := out_ret hB1 hy1
      exact ⟨_, hB1, Wk.tab True.intro True.intro rfl⟩
  intro v1 h
  unfold slices_IndexFunc_api_Lease_api_Lease__sweep_open_1_1_2_J1 at h
  refine Ok.seq ?_
  refine Ok.region Tryz.tok ?_
  refine Ok.wk (Wk.tab (L := [(4, (vi ((-1))))]) (H' := []) ⟨Le.refl _, True.intro⟩ True.intro rfl) ?_
  refine Ok.ret ?_
  cases h
  exact Fz.v

theorem w_sweep_open_1_1_2 {p_l : api_Lease} {p_a1 : api_Room} {p_a2_0 : Int} {r : Bool} (h : sweep_open_1_1_2 p_l p_a1 p_a2_0 = some r) : Pure Tryz.prog 50 [(.a [(vi p_l.Client), (vi p_l.Ino), (vi p_l.Kind), (vi p_l.Span.From), (vi p_l.Span.To), (vi p_l.Until), (vi p_l.Epoch)]), (.p [(vi p_a1.Id), (vi p_a1.Ino), (vi p_a1.Client)]), (.p [(vi p_a2_0)])] (vb r) := by
  refine pure_of_ok (n := 28) (c := (Tryz.f50.body.getD .skip)) Tryz.tok Tryz.func50 (by kernel_rfl) rfl rfl (Nat.le_of_ble_eq_true rfl) ?_
  unfold sweep_open_1_1_2 at h
  refine Ok.wk (Wk.tab (L := [(0, (.a [(vi p_l.Client), (vi p_l.Ino), (vi p_l.Kind), (vi p_l.Span.From), (vi p_l.Span.To), (vi p_l.Until), (vi p_l.Epoch)])), (1, (.p [(vi p_a1.Id), (vi p_a1.Ino), (vi p_a1.Client)])), (2, (.p [(vi p_a2_0)]))]) (H' := []) ⟨Le.refl _, Le.refl _, Le.refl _, True.intro⟩ True.intro rfl) ?_
  refine Ok.seq ?_
  refine Ok.region Tryz.tok ?_
  refine Ok.wk (Wk.tab (L := [(1, (.p [(vi p_a1.Id), (vi p_a1.Ino), (vi p_a1.Client)])), (2, (.p [(vi p_a2_0)])), (3, (.b 3 0))]) (H' := [(3, .box [(vi p_l.Client), (vi p_l.Ino), (vi p_l.Kind), (vi p_l.Span.From), (vi p_l.Span.To), (vi p_l.Until), (vi p_l.Epoch)])]) ⟨Le.refl _, Le.refl _, Le.refl _, True.intro⟩ ⟨⟨_, rfl, .refl _⟩, True.intro⟩ rfl) ?_
  obtain ⟨v1, hv1, h⟩ := bindS h
  refine Ok.seqw ⟨Cat.tab [(4, (vb v1))], []⟩ ?_ ?_
  · refine Ok.region Tryz.tok ?_
    refine ⟨_, rfl, ⟨_, rfl, ?_⟩⟩
    obtain ⟨c1, hg1, hv1⟩ := bindS hv1
    refine Br.ite hg1 (fun hb hg1 => ?_) fun hb hg1 => ?_
    · refine ⟨_, rfl, ⟨_, rfl, ?_⟩⟩
      cases hg1
      obtain ⟨c2, hg2, hv1⟩ := bindS hv1
      refine Br.ite hg2 (fun hb hg2 => ?_) fun hb hg2 => ?_
      · refine ⟨_, rfl, ?_⟩
        cases hg2
        obtain ⟨c3, hg3, hv1⟩ := bindS hv1
        refine Br.ite hg3 (fun hb hg3 => ?_) fun hb hg3 => ?_
        · refine ⟨_, rfl, ⟨_, rfl, ?_⟩⟩
          cases hg3
          cases hv1
          exact Wk.tab ⟨Le.refl _, True.intro⟩ True.intro rfl
        · cases hg3
          cases hv1
          exact Wk.tab ⟨Le.refl _, True.intro⟩ True.intro rfl
      · cases hg2
        obtain ⟨c3, hg4, hv1⟩ := bindS hv1
        replace hg4 := iteF hg4
        cases hg4
        cases hv1
        exact Wk.tab ⟨Le.refl _, True.intro⟩ True.intro rfl
    · cases hg1
      obtain ⟨c2, hg5, hv1⟩ := bindS hv1
      replace hg5 := iteF hg5
      cases hg5
      obtain ⟨c3, hg6, hv1⟩ := bindS hv1
      replace hg6 := iteF hg6
      cases hg6
      cases hv1
      exact Wk.tab ⟨Le.refl _, True.intro⟩ True.intro rfl
  refine Ok.ret ?_
  cases h
  exact Fz.v

theorem wg_sweep_open_1_1_3 {p_l : api_Lease} {p_a2_0 : Int} {p_b0 : api_Room} {r : Bool} (h : sweep_open_1_1_3 p_l p_a2_0 p_b0 = some r) : CallOk Tryz.prog 50 [(.a [(vi p_l.Client), (vi p_l.Ino), (vi p_l.Kind), (vi p_l.Span.From), (vi p_l.Span.To), (vi p_l.Until), (vi p_l.Epoch)]), (.b 1000 0), (.p [(vi p_a2_0)])] ⟨noSlots, [(1000, .box [(vi p_b0.Id), (vi p_b0.Ino), (vi p_b0.Client)])]⟩ fun x s => x = (vb r) ∧ s.H = [(1000, .box [(vi p_b0.Id), (vi p_b0.Ino), (vi p_b0.Client)])] := by
  refine pgen_of_ok (n := 28) (c := (Tryz.f50.body.getD .skip)) Tryz.tok Tryz.func50 (by kernel_rfl) rfl rfl (Nat.le_of_ble_eq_true rfl) ?_
  unfold sweep_open_1_1_3 at h
  refine Ok.wk (Wk.tab (L := [(0, (.a [(vi p_l.Client), (vi p_l.Ino), (vi p_l.Kind), (vi p_l.Span.From), (vi p_l.Span.To), (vi p_l.Until), (vi p_l.Epoch)])), (1, (.b 1000 0)), (2, (.p [(vi p_a2_0)]))]) (H' := [(1000, .box [(vi p_b0.Id), (vi p_b0.Ino), (vi p_b0.Client)])]) ⟨Le.refl _, Le.refl _, Le.refl _, True.intro⟩ ⟨⟨_, rfl, .refl _⟩, True.intro⟩ rfl) ?_
  refine Ok.seq ?_
  refine Ok.region Tryz.tok ?_
  refine Ok.wk (Wk.tab (L := [(1, (.b 1000 0)), (2, (.p [(vi p_a2_0)])), (3, (.b 3 0))]) (H' := [(1000, .box [(vi p_b0.Id), (vi p_b0.Ino), (vi p_b0.Client)]), (3, .box [(vi p_l.Client), (vi p_l.Ino), (vi p_l.Kind), (vi p_l.Span.From), (vi p_l.Span.To), (vi p_l.Until), (vi p_l.Epoch)])]) ⟨Le.refl _, Le.refl _, Le.refl _, True.intro⟩ ⟨⟨_, rfl, .refl _⟩, ⟨_, rfl, .refl _⟩, True.intro⟩ rfl) ?_
  obtain ⟨v1, hv1, h⟩ := bindS h
  refine Ok.seqw ⟨Cat.tab [(4, (vb v1))], [(1000, .box [(vi p_b0.Id), (vi p_b0.Ino), (vi p_b0.Client)])]⟩ ?_ ?_
  · refine Ok.region Tryz.tok ?_
    refine ⟨_, rfl, ⟨_, rfl, ?_⟩⟩
    obtain ⟨c1, hg1, hv1⟩ := bindS hv1
    refine Br.ite hg1 (fun hb hg1 => ?_) fun hb hg1 => ?_
    · refine ⟨_, rfl, ⟨_, rfl, ?_⟩⟩
      cases hg1
      obtain ⟨c2, hg2, hv1⟩ := bindS hv1
      refine Br.ite hg2 (fun hb hg2 => ?_) fun hb hg2 => ?_
      · refine ⟨_, rfl, ?_⟩
        cases hg2
        obtain ⟨c3, hg3, hv1⟩ := bindS hv1
        refine Br.ite hg3 (fun hb hg3 => ?_) fun hb hg3 => ?_
        · refine ⟨_, rfl, ⟨_, rfl, ?_⟩⟩
          cases hg3
          cases hv1
          exact Wk.tab ⟨Le.refl _, True.intro⟩ ⟨⟨_, rfl, .refl _⟩, True.intro⟩ rfl
        · cases hg3
          cases hv1
          exact Wk.tab ⟨Le.refl _, True.intro⟩ ⟨⟨_, rfl, .refl _⟩, True.intro⟩ rfl
      · cases hg2
        obtain ⟨c3, hg4, hv1⟩ := bindS hv1
        replace hg4 := iteF hg4
        cases hg4
        cases hv1
        exact Wk.tab ⟨Le.refl _, True.intro⟩ ⟨⟨_, rfl, .refl _⟩, True.intro⟩ rfl
    · cases hg1
      obtain ⟨c2, hg5, hv1⟩ := bindS hv1
      replace hg5 := iteF hg5
      cases hg5
      obtain ⟨c3, hg6, hv1⟩ := bindS hv1
      replace hg6 := iteF hg6
      cases hg6
      cases hv1
      exact Wk.tab ⟨Le.refl _, True.intro⟩ ⟨⟨_, rfl, .refl _⟩, True.intro⟩ rfl
  refine Ok.ret ?_
  cases h
  exact Wk.tab ⟨Le.refl _, True.intro⟩ ⟨⟨_, rfl, .refl _⟩, True.intro⟩ rfl

theorem wg_slices_IndexFunc_api_Lease_api_Lease__sweep_open_1_1_3 {p_s : List api_Lease} {p_f_c1_0 : Int} {p_b0 : api_Room} {r : Int} (h : slices_IndexFunc_api_Lease_api_Lease__sweep_open_1_1_3 p_s p_f_c1_0 p_b0 = some r) : CallOk Tryz.prog 77 [(.s (List.map c_api_Lease p_s)), (.c (.func 50) [] [(.b 1000 0), (.p [(vi p_f_c1_0)])])] ⟨noSlots, [(1000, .box [(vi p_b0.Id), (vi p_b0.Ino), (vi p_b0.Client)])]⟩ fun x s => x = (vi r) ∧ s.H = [(1000, .box [(vi p_b0.Id), (vi p_b0.Ino), (vi p_b0.Client)])] := by
  refine pgen_of_ok (n := 19) (c := (Tryz.f77.body.getD .skip)) Tryz.tok Tryz.func77 (by kernel_rfl) rfl rfl (Nat.le_of_ble_eq_true rfl) ?_
  unfold slices_IndexFunc_api_Lease_api_Lease__sweep_open_1_1_3 at h
  refine Ok.wk (Wk.tab (L := [(0, (.s (List.map c_api_Lease p_s))), (1, (.c (.func 50) [] [(.b 1000 0), (.p [(vi p_f_c1_0)])]))]) (H' := [(1000, .box [(vi p_b0.Id), (vi p_b0.Ino), (vi p_b0.Client)])]) ⟨Le.refl _, Le.refl _, True.intro⟩ ⟨⟨_, rfl, .refl _⟩, True.intro⟩ rfl) ?_
  refine Ok.seq ?_
  refine Ok.region Tryz.tok ?_
  refine Ok.wk (Wk.tab (L := [(0, (.s (List.map c_api_Lease p_s))), (1, (.c (.func 50) [] [(.b 1000 0), (.p [(vi p_f_c1_0)])]))]) (H' := [(1000, .box [(vi p_b0.Id), (vi p_b0.Ino), (vi p_b0.Client)])]) ⟨Le.refl _, Le.refl _, True.intro⟩ ⟨⟨_, rfl, .refl _⟩, True.intro⟩ rfl) ?_
  refine Ok.seqj (fun v1 => ⟨Cat.tab [], [(1000, .box [(vi p_b0.Id), (vi p_b0.Ino), (vi p_b0.Client)])]⟩) (fun v1 => slices_IndexFunc_api_Lease_api_Lease__sweep_open_1_1_3_J1 v1 = some r) ?_ ?_
  · refine Ok.seq ?_
    refine Ok.region Tryz.tok ?_
    refine ⟨_, List.length_map _, fun _ => ?_⟩
    refine Ok.wk (Wk.tab (L := [(0, (.s (List.map c_api_Lease p_s))), (1, (.c (.func 50) [] [(.b 1000 0), (.p [(vi p_f_c1_0)])])), (7, (vi ((p_s.length : Int)))), (8, (vi (0)))]) (H' := [(1000, .box [(vi p_b0.Id), (vi p_b0.Ino), (vi p_b0.Client)])]) ⟨Le.refl _, Le.refl _, Le.refl _, Le.refl _, True.intro⟩ ⟨⟨_, rfl, .refl _⟩, True.intro⟩ rfl) ?_
    refine Ok.block ?_
    refine Ok.loop (fun (s1 : Int) => ⟨Cat.tab [(0, (.s (List.map c_api_Lease p_s))), (1, (.c (.func 50) [] [(.b 1000 0), (.p [(vi p_f_c1_0)])])), (7, (vi ((p_s.length : Int)))), (8, (vi s1))], [(1000, .box [(vi p_b0.Id), (vi p_b0.Ino), (vi p_b0.Client)])]⟩) (slices_IndexFunc_api_Lease_api_Lease__sweep_open_1_1_3_B1 p_s p_f_c1_0 p_b0) (s0 := 0) h (Wk.tab ⟨Le.refl _, Le.refl _, Le.refl _, Le.refl _, True.intro⟩ ⟨⟨_, rfl, .refl _⟩, True.intro⟩ rfl) ?_
    intro s1 y1 hB1 hy1
    unfold slices_IndexFunc_api_Lease_api_Lease__sweep_open_1_1_3_B1 at hB1
    refine Ok.seq ?_
    refine Ok.region Tryz.tok ?_
    refine Ok.wk (Wk.tab (L := [(0, (.s (List.map c_api_Lease p_s))), (1, (.c (.func 50) [] [(.b 1000 0), (.p [(vi p_f_c1_0)])])), (7, (vi ((p_s.length : Int)))), (8, (vi s1)), (9, (vb ((decide (s1 < (p_s.length : Int))))))]) (H' := [(1000, .box [(vi p_b0.Id), (vi p_b0.Ino), (vi p_b0.Client)])]) ⟨Le.refl _, Le.refl _, Le.refl _, Le.refl _, Le.refl _, True.intro⟩ ⟨⟨_, rfl, .refl _⟩, True.intro⟩ rfl) ?_
    refine Ok.seq ?_
    refine Ok.cond (d := 9) (b := (decide (s1 < (p_s.length : Int)))) rfl hB1 (fun hb hB1 => ?_) fun hb hB1 => ?_
    · refine Ok.skip ?_
      refine Ok.seq ?_
      refine Ok.block ?_
      refine Ok.seq ?_
      refine Ok.region Tryz.tok ?_
      refine Ok.wk (Wk.tab (L := [(0, (.s (List.map c_api_Lease p_s))), (1, (.c (.func 50) [] [(.b 1000 0), (.p [(vi p_f_c1_0)])])), (5, (vi s1)), (7, (vi ((p_s.length : Int)))), (8, (vi s1))]) (H' := [(1000, .box [(vi p_b0.Id), (vi p_b0.Ino), (vi p_b0.Client)])]) ⟨Le.refl _, Le.refl _, Le.refl _, Le.refl _, Le.refl _, True.intro⟩ ⟨⟨_, rfl, .refl _⟩, True.intro⟩ rfl) ?_
      refine Ok.seq ?_
      refine Ok.region Tryz.tok ?_
      obtain ⟨x1, hx1, hB1⟩ := bindS hB1
      obtain ⟨x3, hx3, hB1⟩ := bindS hB1
      refine ⟨_, idx_nat hx1, _, idx_row hx1, ⟨_, rfl, ?_⟩⟩
      refine CallOk.gen (m := [(1000, 1000)]) (n := []) (wg_sweep_open_1_1_3 hx3) (.cons (Ln.imm rfl) (.cons (Ln.b rfl) (.cons (Ln.imm rfl) (.nil)))) ⟨⟨1000, _, rfl, rfl, .box (.cons (Ln.imm rfl) (.cons (Ln.imm rfl) (.cons (Ln.imm rfl) (.nil))))⟩, True.intro⟩ rfl rfl rfl ?_
      refine Ok.wk (Wk.tab (L := [(0, (.s (List.map c_api_Lease p_s))), (1, (.c (.func 50) [] [(.b 1000 0), (.p [(vi p_f_c1_0)])])), (5, (vi s1)), (7, (vi ((p_s.length : Int)))), (8, (vi s1)), (16, (vb x3))]) (H' := [(1000, .box [(vi p_b0.Id), (vi p_b0.Ino), (vi p_b0.Client)])]) ⟨Le.refl _, Le.refl _, Le.refl _, Le.refl _, Le.refl _, Le.refl _, True.intro⟩ ⟨⟨_, rfl, .refl _⟩, True.intro⟩ rfl) ?_
      refine Ok.cond (d := 16) (b := x3) rfl hB1 (fun hb hB1 => ?_) fun hb hB1 => ?_
      · refine Ok.seq ?_
        refine Ok.region Tryz.tok ?_
        refine Ok.wk (Wk.tab (L := [(4, (vi s1))]) (H' := [(1000, .box [(vi p_b0.Id), (vi p_b0.Ino), (vi p_b0.Client)])]) ⟨Le.refl _, True.intro⟩ ⟨⟨_, rfl, .refl _⟩, True.intro⟩ rfl) ?_
        refine Ok.ret ?_
        have hB1 := out_ret hB1 hy1
        cases hB1
        exact Wk.tab ⟨Le.refl _, True.intro⟩ ⟨⟨_, rfl, .refl _⟩, True.intro⟩ rfl
      · refine Ok.skip ?_
        refine Ok.region Tryz.tok ?_
        obtain ⟨hc1, hB1⟩ := chk_some hB1
        refine (Or.inl ⟨hc1, ?_⟩)
        exact ⟨_, (Option.some.inj hB1).symm, Wk.tab ⟨Le.refl _, Le.refl _, Le.refl _, Le.refl _, True.intro⟩ ⟨⟨_, rfl, .refl _⟩, True.intro⟩ rfl⟩
    · refine Ok.exit ?_
      have hB1 := out_ret hB1 hy1
      exact ⟨_, hB1, Wk.tab True.intro ⟨⟨_, rfl, .refl _⟩, True.intro⟩ rfl⟩
  intro v1 h
  unfold slices_IndexFunc_api_Lease_api_Lease__sweep_open_1_1_3_J1 at h
  refine Ok.seq ?_
  refine Ok.region Tryz.tok ?_
  refine Ok.wk (Wk.tab (L := [(4, (vi ((-1))))]) (H' := [(1000, .box [(vi p_b0.Id), (vi p_b0.Ino), (vi p_b0.Client)])]) ⟨Le.refl _, True.intro⟩ ⟨⟨_, rfl, .refl _⟩, True.intro⟩ rfl) ?_
  refine Ok.ret ?_
  cases h
  exact Wk.tab ⟨Le.refl _, True.intro⟩ ⟨⟨_, rfl, .refl _⟩, True.intro⟩ rfl

theorem wg_slices_ContainsFunc_api_Lease_api_Lease__sweep_open_1_1_2 {p_s : List api_Lease} {p_f_c1_0 : Int} {p_b0 : api_Room} {r : Bool} (h : slices_ContainsFunc_api_Lease_api_Lease__sweep_open_1_1_2 p_s p_f_c1_0 p_b0 = some r) : CallOk Tryz.prog 49 [(.s (List.map c_api_Lease p_s)), (.c (.func 50) [] [(.b 1000 0), (.p [(vi p_f_c1_0)])])] ⟨noSlots, [(1000, .box [(vi p_b0.Id), (vi p_b0.Ino), (vi p_b0.Client)])]⟩ fun x s => x = (vb r) ∧ s.H = [(1000, .box [(vi p_b0.Id), (vi p_b0.Ino), (vi p_b0.Client)])] := by
  refine pgen_of_ok (n := 9) (c := (Tryz.f49.body.getD .skip)) Tryz.tok Tryz.func49 (by kernel_rfl) rfl rfl (Nat.le_of_ble_eq_true rfl) ?_
  unfold slices_ContainsFunc_api_Lease_api_Lease__sweep_open_1_1_2 at h
  refine Ok.wk (Wk.tab (L := [(0, (.s (List.map c_api_Lease p_s))), (1, (.c (.func 50) [] [(.b 1000 0), (.p [(vi p_f_c1_0)])]))]) (H' := [(1000, .box [(vi p_b0.Id), (vi p_b0.Ino), (vi p_b0.Client)])]) ⟨Le.refl _, Le.refl _, True.intro⟩ ⟨⟨_, rfl, .refl _⟩, True.intro⟩ rfl) ?_
  refine Ok.seq ?_
  refine Ok.region Tryz.tok ?_
  refine Ok.wk (Wk.tab (L := [(0, (.s (List.map c_api_Lease p_s))), (1, (.c (.func 50) [] [(.b 1000 0), (.p [(vi p_f_c1_0)])]))]) (H' := [(1000, .box [(vi p_b0.Id), (vi p_b0.Ino), (vi p_b0.Client)])]) ⟨Le.refl _, Le.refl _, True.intro⟩ ⟨⟨_, rfl, .refl _⟩, True.intro⟩ rfl) ?_
  refine Ok.seq ?_
  refine Ok.region Tryz.tok ?_
  obtain ⟨x2, hx2, h⟩ := bindS h
  refine CallOk.gen (m := [(1000, 1000)]) (n := []) (wg_slices_IndexFunc_api_Lease_api_Lease__sweep_open_1_1_3 hx2) (.cons (Ln.imm rfl) (.cons (Ln.c (.nil) (.cons (Ln.b rfl) (.cons (Ln.imm rfl) (.nil)))) (.nil))) ⟨⟨1000, _, rfl, rfl, .box (.cons (Ln.imm rfl) (.cons (Ln.imm rfl) (.cons (Ln.imm rfl) (.nil))))⟩, True.intro⟩ rfl rfl rfl ?_
  refine Ok.wk (Wk.tab (L := [(4, (vb ((decide (x2 ≥ 0)))))]) (H' := [(1000, .box [(vi p_b0.Id), (vi p_b0.Ino), (vi p_b0.Client)])]) ⟨Le.refl _, True.intro⟩ ⟨⟨_, rfl, .refl _⟩, True.intro⟩ rfl) ?_
  refine Ok.ret ?_
  cases h
  exact Wk.tab ⟨Le.refl _, True.intro⟩ ⟨⟨_, rfl, .refl _⟩, True.intro⟩ rfl

theorem w_sweep_open_1 {p_r : api_Room} {p_a1 : List api_Lease} {p_a2 : Int} {r : Bool} (h : sweep_open_1 p_r p_a1 p_a2 = some r) : Pure Tryz.prog 48 [(.a [(vi p_r.Id), (vi p_r.Ino), (vi p_r.Client)]), (.p [(.s (List.map c_api_Lease p_a1))]), (.p [(vi p_a2)])] (vb r) := by
  refine pure_of_ok (n := 8) (c := (Tryz.f48.body.getD .skip)) Tryz.tok Tryz.func48 (by kernel_rfl) rfl rfl (Nat.le_of_ble_eq_true rfl) ?_
  unfold sweep_open_1 at h
  refine Ok.wk (Wk.tab (L := [(0, (.a [(vi p_r.Id), (vi p_r.Ino), (vi p_r.Client)])), (1, (.p [(.s (List.map c_api_Lease p_a1))])), (2, (.p [(vi p_a2)]))]) (H' := []) ⟨Le.refl _, Le.refl _, Le.refl _, True.intro⟩ True.intro rfl) ?_
  refine Ok.seq ?_
  refine Ok.region Tryz.tok ?_
  refine Ok.wk (Wk.tab (L := [(1, (.p [(.s (List.map c_api_Lease p_a1))])), (2, (.p [(vi p_a2)])), (3, (.b 3 0))]) (H' := [(3, .box [(vi p_r.Id), (vi p_r.Ino), (vi p_r.Client)])]) ⟨Le.refl _, Le.refl _, Le.refl _, True.intro⟩ ⟨⟨_, rfl, .refl _⟩, True.intro⟩ rfl) ?_
  refine Ok.seq ?_
  refine Ok.region Tryz.tok ?_
  obtain ⟨x2, hx2, h⟩ := bindS h
  refine ⟨_, rfl, ?_⟩
  refine CallOk.gen (m := [(1000, 3)]) (n := []) (wg_slices_ContainsFunc_api_Lease_api_Lease__sweep_open_1_1_2 hx2) (.cons (Ln.imm rfl) (.cons (Ln.c (.nil) (.cons (Ln.b rfl) (.cons (Ln.imm rfl) (.nil)))) (.nil))) ⟨⟨3, _, rfl, rfl, .box (.cons (Ln.imm rfl) (.cons (Ln.imm rfl) (.cons (Ln.imm rfl) (.nil))))⟩, True.intro⟩ rfl rfl rfl ?_
  refine Ok.wk (Wk.tab (L := [(4, (vb x2))]) (H' := []) ⟨Le.refl _, True.intro⟩ True.intro rfl) ?_
  refine Ok.ret ?_
  cases h
  exact Fz.v
end Go.Proofs
