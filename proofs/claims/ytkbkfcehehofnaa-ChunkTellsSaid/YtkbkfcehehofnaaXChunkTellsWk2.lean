/- The walks of this seat beside the plain programs, part 2. No condition. -/
import Derived.Test.YtkbkfcehehofnaaXChunkTellsEn
import Derived.Test.YtkbkfcehehofnaaXChunkTellsWk0
import Derived.Test.YtkbkfcehehofnaaXChunkTellsWk1
namespace Go.Proofs
set_option linter.all false
open Go Go.Cat
set_option maxRecDepth 100000

theorem w_ref01_ReadInt {p_b : List UInt8} {r : Int × (List UInt8) × Int} (h : ref01_ReadInt p_b = some r) : Pure Try.prog 77 [(.s (List.map cU8 p_b))] (.t [(vi r.1), (.s (List.map cU8 r.2.1)), (vi r.2.2)]) := by
  refine pure_of_ok (n := 61) (c := (Try.f77.body.getD .skip)) Try.tok Try.func77 (by kernel_rfl) rfl rfl (Nat.le_of_ble_eq_true rfl) ?_
  unfold ref01_ReadInt at h
  refine Ok.wk (Wk.tab (L := [(0, (.s (List.map cU8 p_b)))]) (H' := []) ⟨Le.refl _, True.intro⟩ True.intro rfl) ?_
  refine Ok.seq ?_
  refine Ok.region Try.tok ?_
  refine Ok.wk (Wk.tab (L := [(0, (.s (List.map cU8 p_b)))]) (H' := []) ⟨Le.refl _, True.intro⟩ True.intro rfl) ?_
  refine Ok.seq ?_
  refine Ok.region Try.tok ?_
  refine Ok.wk (Wk.tab (L := [(0, (.s (List.map cU8 p_b))), (5, (.v (.int .u64 (0))))]) (H' := []) ⟨Le.refl _, Le.refl _, True.intro⟩ True.intro rfl) ?_
  refine Ok.seq ?_
  refine Ok.region Try.tok ?_
  refine Ok.wk (Wk.tab (L := [(0, (.s (List.map cU8 p_b))), (5, (.v (.int .u64 (0)))), (6, (.v (.int .u64 (1))))]) (H' := []) ⟨Le.refl _, Le.refl _, Le.refl _, True.intro⟩ True.intro rfl) ?_
  refine Ok.seqj (fun v1 => ⟨Cat.tab [], []⟩) (fun v1 => ref01_ReadInt_J1 v1 = some r) ?_ ?_
  · refine Ok.seq ?_
    refine Ok.region Try.tok ?_
    refine Ok.wk (Wk.tab (L := [(0, (.s (List.map cU8 p_b))), (5, (.v (.int .u64 (0)))), (6, (.v (.int .u64 (1)))), (7, (vi (0)))]) (H' := []) ⟨Le.refl _, Le.refl _, Le.refl _, Le.refl _, True.intro⟩ True.intro rfl) ?_
    refine Ok.block ?_
    refine Ok.loop (fun s1 => ⟨Cat.tab [(0, (.s (List.map cU8 p_b))), (5, (.v (.int .u64 s1.1))), (6, (.v (.int .u64 s1.2.1))), (7, (vi s1.2.2))], []⟩) (ref01_ReadInt_B1 p_b) (s0 := (0, 1, 0)) h (Wk.tab ⟨Le.refl _, Le.refl _, Le.refl _, Le.refl _, True.intro⟩ True.intro rfl) ?_
    intro s1 y1 hB1 hy1
    unfold ref01_ReadInt_B1 at hB1
    refine Ok.seq ?_
    obtain ⟨v2, hv2, hB1⟩ := bindS hB1
    refine Ok.seqw ⟨Cat.tab [(0, (.s (List.map cU8 p_b))), (5, (.v (.int .u64 s1.1))), (6, (.v (.int .u64 s1.2.1))), (7, (vi s1.2.2)), (16, (vb v2))], []⟩ ?_ ?_
    · refine Ok.region Try.tok ?_
      refine ⟨_, List.length_map _, fun _ => ?_⟩
      obtain ⟨c1, hg1, hv2⟩ := bindS hv2
      refine Br.ite hg1 (fun hb hg1 => ?_) fun hb hg1 => ?_
      · cases hg1
        cases hv2
        exact Wk.tab ⟨Le.refl _, Le.refl _, Le.refl _, Le.refl _, Le.refl _, True.intro⟩ True.intro rfl
      · cases hg1
        cases hv2
        exact Wk.tab ⟨Le.refl _, Le.refl _, Le.refl _, Le.refl _, Le.refl _, True.intro⟩ True.intro rfl
    refine Ok.cond (d := 16) (b := v2) rfl hB1 (fun hb hB1 => ?_) fun hb hB1 => ?_
    · refine Ok.skip ?_
      refine Ok.seq ?_
      refine Ok.block ?_
      refine Ok.seq ?_
      refine Ok.region Try.tok ?_
      obtain ⟨x1, hx1, hB1⟩ := bindS hB1
      refine ⟨_, idx_nat hx1, _, idx_row hx1, ⟨_, rfl, ⟨(by decide), _, b8_rem _ _, ⟨_, wrap_of_u8 (k := .u64) (by decide) _, ?_⟩⟩⟩⟩
      refine Ok.wk (Wk.tab (L := [(0, (.s (List.map cU8 p_b))), (5, (.v (.int .u64 s1.1))), (6, (.v (.int .u64 s1.2.1))), (7, (vi s1.2.2)), (8, (.v (.int .u64 ((((toU8 (Int.tmod ((x1.toNat : Int)) (128)))).toNat : Int)))))]) (H' := []) ⟨Le.refl _, Le.refl _, Le.refl _, Le.refl _, Le.refl _, True.intro⟩ True.intro rfl) ?_
      refine Ok.seq ?_
      obtain ⟨v3, hv3, hB1⟩ := bindS hB1
      refine Ok.seqw ⟨Cat.tab [(0, (.s (List.map cU8 p_b))), (5, (.v (.int .u64 s1.1))), (6, (.v (.int .u64 s1.2.1))), (7, (vi s1.2.2)), (8, (.v (.int .u64 ((((toU8 (Int.tmod ((x1.toNat : Int)) (128)))).toNat : Int))))), (33, (vb v3))], []⟩ ?_ ?_
      · refine Ok.region Try.tok ?_
        obtain ⟨c2, hg2, hv3⟩ := bindS hv3
        refine Br.ite hg2 (fun hb hg2 => ?_) fun hb hg2 => ?_
        · obtain ⟨x2, hx2, hg2⟩ := bindS hg2
          refine ⟨_, idx_nat hx2, _, idx_row hx2, ⟨_, rfl, ?_⟩⟩
          cases hg2
          cases hv3
          exact Wk.tab ⟨Le.refl _, Le.refl _, Le.refl _, Le.refl _, Le.refl _, Le.refl _, True.intro⟩ True.intro rfl
        · cases hg2
          cases hv3
          exact Wk.tab ⟨Le.refl _, Le.refl _, Le.refl _, Le.refl _, Le.refl _, Le.refl _, True.intro⟩ True.intro rfl
      refine Ok.cond (d := 33) (b := v3) rfl hB1 (fun hb hB1 => ?_) fun hb hB1 => ?_
      · refine Ok.seq ?_
        refine Ok.region Try.tok ?_
        refine Ok.wk (Wk.tab (L := [(2, (vi (0))), (3, (.v (.slice none 0 0))), (4, (vi (11)))]) (H' := []) ⟨Le.refl _, Le.refl _, Le.refl _, True.intro⟩ True.intro rfl) ?_
        refine Ok.ret ?_
        have hB1 := out_ret hB1 hy1
        cases hB1
        exact (Fz.t (.cons Fz.v (.cons Fz.nil (.cons Fz.v .nil))))
      · refine Ok.skip ?_
        refine Ok.seq ?_
        refine Ok.region Try.tok ?_
        refine ⟨_, rfl, ⟨_, rfl, ?_⟩⟩
        refine Ok.wk (Wk.tab (L := [(0, (.s (List.map cU8 p_b))), (5, (.v (.int .u64 ((IntKind.u64.wrap (s1.1 + (IntKind.u64.wrap (s1.2.1 * (((toU8 (Int.tmod ((x1.toNat : Int)) (128)))).toNat : Int))))))))), (6, (.v (.int .u64 s1.2.1))), (7, (vi s1.2.2))]) (H' := []) ⟨Le.refl _, Le.refl _, Le.refl _, Le.refl _, True.intro⟩ True.intro rfl) ?_
        refine Ok.seq ?_
        refine Ok.region Try.tok ?_
        refine ⟨_, rfl, ?_⟩
        refine Ok.wk (Wk.tab (L := [(0, (.s (List.map cU8 p_b))), (5, (.v (.int .u64 ((IntKind.u64.wrap (s1.1 + (IntKind.u64.wrap (s1.2.1 * (((toU8 (Int.tmod ((x1.toNat : Int)) (128)))).toNat : Int))))))))), (6, (.v (.int .u64 ((IntKind.u64.wrap (s1.2.1 * 128)))))), (7, (vi s1.2.2))]) (H' := []) ⟨Le.refl _, Le.refl _, Le.refl _, Le.refl _, True.intro⟩ True.intro rfl) ?_
        refine Ok.seq ?_
        refine Ok.region Try.tok ?_
        obtain ⟨x3, hx3, hB1⟩ := bindS hB1
        refine ⟨_, idx_nat hx3, _, idx_row hx3, ⟨_, rfl, ?_⟩⟩
        refine Ok.wk (Wk.tab (L := [(0, (.s (List.map cU8 p_b))), (5, (.v (.int .u64 ((IntKind.u64.wrap (s1.1 + (IntKind.u64.wrap (s1.2.1 * (((toU8 (Int.tmod ((x1.toNat : Int)) (128)))).toNat : Int))))))))), (6, (.v (.int .u64 ((IntKind.u64.wrap (s1.2.1 * 128)))))), (7, (vi s1.2.2)), (45, (vb ((decide ((x3.toNat : Int) < 128)))))]) (H' := []) ⟨Le.refl _, Le.refl _, Le.refl _, Le.refl _, Le.refl _, True.intro⟩ True.intro rfl) ?_
        refine Ok.cond (d := 45) (b := (decide ((x3.toNat : Int) < 128))) rfl hB1 (fun hb hB1 => ?_) fun hb hB1 => ?_
        · refine Ok.seq ?_
          obtain ⟨v4, hv4, hB1⟩ := bindS hB1
          refine Ok.seqw ⟨Cat.tab [(0, (.s (List.map cU8 p_b))), (5, (.v (.int .u64 ((IntKind.u64.wrap (s1.1 + (IntKind.u64.wrap (s1.2.1 * (((toU8 (Int.tmod ((x1.toNat : Int)) (128)))).toNat : Int))))))))), (7, (vi s1.2.2)), (54, (vb v4))], []⟩ ?_ ?_
          · refine Ok.region Try.tok ?_
            obtain ⟨c3, hg3, hv4⟩ := bindS hv4
            refine Br.ite hg3 (fun hb hg3 => ?_) fun hb hg3 => ?_
            · obtain ⟨x4, hx4, hg3⟩ := bindS hg3
              refine ⟨_, idx_nat hx4, _, idx_row hx4, ⟨_, rfl, ?_⟩⟩
              cases hg3
              cases hv4
              exact Wk.tab ⟨Le.refl _, Le.refl _, Le.refl _, Le.refl _, True.intro⟩ True.intro rfl
            · cases hg3
              cases hv4
              exact Wk.tab ⟨Le.refl _, Le.refl _, Le.refl _, Le.refl _, True.intro⟩ True.intro rfl
          refine Ok.cond (d := 54) (b := v4) rfl hB1 (fun hb hB1 => ?_) fun hb hB1 => ?_
          · refine Ok.seq ?_
            refine Ok.region Try.tok ?_
            refine Ok.wk (Wk.tab (L := [(2, (vi (0))), (3, (.v (.slice none 0 0))), (4, (vi (11)))]) (H' := []) ⟨Le.refl _, Le.refl _, Le.refl _, True.intro⟩ True.intro rfl) ?_
            refine Ok.ret ?_
            have hB1 := out_ret hB1 hy1
            cases hB1
            exact (Fz.t (.cons Fz.v (.cons Fz.nil (.cons Fz.v .nil))))
          · refine Ok.skip ?_
            refine Ok.seq ?_
            refine Ok.draw (m := 9) Try.tok Try.mixed (by kernel_rfl) ?_
            obtain ⟨x5, hx5, hB1⟩ := bindS hB1
            obtain ⟨hc1, hB1⟩ := chk_some hB1
            obtain ⟨hc2, hB1⟩ := chk_some hB1
            refine ⟨_, rfl, ⟨_, ⟨_, .of_pure (w_ref01_zag hx5) (LeL.refl _), rfl⟩, ⟨_, rfl, ⟨_, rfl, ⟨_, ⟨hc1, rfl⟩, ⟨_, ⟨_, sl_nat hc2.1, sl_len hc2, Nat.le_refl _, rowsK (f := cU8) (K := 1) (fun _ => rfl) p_b, _, sl_drop _ _ _, rfl⟩, ⟨_, rfl, ⟨_, rfl, ⟨_, rfl, ?_⟩⟩⟩⟩⟩⟩⟩⟩⟩
            refine Ok.wk (Wk.tab (L := [(2, (vi x5)), (3, (.s (List.map cU8 ((p_b.drop ((s1.2.2 + 1)).toNat))))), (4, (vi (0)))]) (H' := []) ⟨Le.refl _, Le.refl _, Le.refl _, True.intro⟩ True.intro rfl) ?_
            refine Ok.ret ?_
            have hB1 := out_ret hB1 hy1
            cases hB1
            exact (Fz.t (.cons Fz.v (.cons Fz.s (.cons Fz.v .nil))))
        · refine Ok.skip ?_
          refine Ok.region Try.tok ?_
          obtain ⟨hc3, hB1⟩ := chk_some hB1
          refine ⟨hc3, ?_⟩
          exact ⟨_, (Option.some.inj hB1).symm, Wk.tab ⟨Le.refl _, Le.refl _, Le.refl _, Le.refl _, True.intro⟩ True.intro rfl⟩
    · refine Ok.exit ?_
      have hB1 := out_ret hB1 hy1
      exact ⟨_, hB1, Wk.tab True.intro True.intro rfl⟩
  intro v1 h
  unfold ref01_ReadInt_J1 at h
  refine Ok.seq ?_
  refine Ok.region Try.tok ?_
  refine Ok.wk (Wk.tab (L := [(2, (vi (0))), (3, (.v (.slice none 0 0))), (4, (vi (10)))]) (H' := []) ⟨Le.refl _, Le.refl _, Le.refl _, True.intro⟩ True.intro rfl) ?_
  refine Ok.ret ?_
  cases h
  exact (Fz.t (.cons Fz.v (.cons Fz.nil (.cons Fz.v .nil))))

theorem w_ref01_count {p_b : List UInt8} {r : Int × (List UInt8) × Int} (h : ref01_count p_b = some r) : Pure Try.prog 96 [(.s (List.map cU8 p_b))] (.t [(vi r.1), (.s (List.map cU8 r.2.1)), (vi r.2.2)]) := by
  refine pure_of_ok (n := 25) (c := (Try.f96.body.getD .skip)) Try.tok Try.func96 (by kernel_rfl) rfl rfl (Nat.le_of_ble_eq_true rfl) ?_
  unfold ref01_count at h
  refine Ok.wk (Wk.tab (L := [(0, (.s (List.map cU8 p_b)))]) (H' := []) ⟨Le.refl _, True.intro⟩ True.intro rfl) ?_
  refine Ok.seq ?_
  refine Ok.region Try.tok ?_
  refine Ok.wk (Wk.tab (L := [(0, (.s (List.map cU8 p_b)))]) (H' := []) ⟨Le.refl _, True.intro⟩ True.intro rfl) ?_
  refine Ok.seq ?_
  refine Ok.region Try.tok ?_
  obtain ⟨x1, hx1, h⟩ := bindS h
  refine CallOk.call (w_ref01_ReadInt hx1) (LeL.refl _) ?_
  refine Ok.wk (Wk.tab (L := [(5, (vi x1.1)), (6, (.s (List.map cU8 x1.2.1))), (7, (vi x1.2.2))]) (H' := []) ⟨Le.refl _, Le.refl _, Le.refl _, True.intro⟩ True.intro rfl) ?_
  refine Ok.seq ?_
  refine Ok.seq ?_
  refine Ok.region Try.tok ?_
  refine Ok.wk (Wk.tab (L := [(5, (vi x1.1)), (6, (.s (List.map cU8 x1.2.1))), (7, (vi x1.2.2)), (15, (vb ((x1.2.2 != 0))))]) (H' := []) ⟨Le.refl _, Le.refl _, Le.refl _, Le.refl _, True.intro⟩ True.intro rfl) ?_
  refine Ok.cond (d := 15) (b := (x1.2.2 != 0)) rfl h (fun hb h => ?_) fun hb h => ?_
  · refine Ok.seq ?_
    refine Ok.region Try.tok ?_
    refine Ok.wk (Wk.tab (L := [(2, (vi (0))), (3, (.v (.slice none 0 0))), (4, (vi x1.2.2))]) (H' := []) ⟨Le.refl _, Le.refl _, Le.refl _, True.intro⟩ True.intro rfl) ?_
    refine Ok.ret ?_
    cases h
    exact (Fz.t (.cons Fz.v (.cons Fz.nil (.cons Fz.v .nil))))
  · refine Ok.skip ?_
    refine Ok.seq ?_
    refine Ok.seq ?_
    refine Ok.region Try.tok ?_
    refine Ok.wk (Wk.tab (L := [(5, (vi x1.1)), (6, (.s (List.map cU8 x1.2.1))), (18, (vb ((decide (x1.1 < 0)))))]) (H' := []) ⟨Le.refl _, Le.refl _, Le.refl _, True.intro⟩ True.intro rfl) ?_
    refine Ok.cond (d := 18) (b := (decide (x1.1 < 0))) rfl h (fun hb h => ?_) fun hb h => ?_
    · refine Ok.seq ?_
      refine Ok.region Try.tok ?_
      refine Ok.wk (Wk.tab (L := [(2, (vi (0))), (3, (.v (.slice none 0 0))), (4, (vi (11)))]) (H' := []) ⟨Le.refl _, Le.refl _, Le.refl _, True.intro⟩ True.intro rfl) ?_
      refine Ok.ret ?_
      cases h
      exact (Fz.t (.cons Fz.v (.cons Fz.nil (.cons Fz.v .nil))))
    · refine Ok.skip ?_
      refine Ok.seq ?_
      refine Ok.seq ?_
      refine Ok.region Try.tok ?_
      refine ⟨_, List.length_map _, fun _ => ?_⟩
      refine Ok.wk (Wk.tab (L := [(5, (vi x1.1)), (6, (.s (List.map cU8 x1.2.1))), (22, (vb ((decide (x1.1 > (x1.2.1.length : Int))))))]) (H' := []) ⟨Le.refl _, Le.refl _, Le.refl _, True.intro⟩ True.intro rfl) ?_
      refine Ok.cond (d := 22) (b := (decide (x1.1 > (x1.2.1.length : Int)))) rfl h (fun hb h => ?_) fun hb h => ?_
      · refine Ok.seq ?_
        refine Ok.region Try.tok ?_
        refine Ok.wk (Wk.tab (L := [(2, (vi (0))), (3, (.v (.slice none 0 0))), (4, (vi (10)))]) (H' := []) ⟨Le.refl _, Le.refl _, Le.refl _, True.intro⟩ True.intro rfl) ?_
        refine Ok.ret ?_
        cases h
        exact (Fz.t (.cons Fz.v (.cons Fz.nil (.cons Fz.v .nil))))
      · refine Ok.skip ?_
        refine Ok.seq ?_
        refine Ok.region Try.tok ?_
        refine Ok.wk (Wk.tab (L := [(2, (vi x1.1)), (3, (.s (List.map cU8 x1.2.1))), (4, (vi (0)))]) (H' := []) ⟨Le.refl _, Le.refl _, Le.refl _, True.intro⟩ True.intro rfl) ?_
        refine Ok.ret ?_
        cases h
        exact (Fz.t (.cons Fz.v (.cons Fz.s (.cons Fz.v .nil))))

theorem w_ref01_ReadStr {p_b : List UInt8} {r : (List UInt8) × (List UInt8) × Int} (h : ref01_ReadStr p_b = some r) : Pure Try.prog 78 [(.s (List.map cU8 p_b))] (.t [(vs r.1), (.s (List.map cU8 r.2.1)), (vi r.2.2)]) := by
  refine pure_of_ok (n := 24) (c := (Try.f78.body.getD .skip)) Try.tok Try.func78 (by kernel_rfl) rfl rfl (Nat.le_of_ble_eq_true rfl) ?_
  unfold ref01_ReadStr at h
  refine Ok.wk (Wk.tab (L := [(0, (.s (List.map cU8 p_b)))]) (H' := []) ⟨Le.refl _, True.intro⟩ True.intro rfl) ?_
  refine Ok.seq ?_
  refine Ok.region Try.tok ?_
  refine Ok.wk (Wk.tab (L := [(0, (.s (List.map cU8 p_b)))]) (H' := []) ⟨Le.refl _, True.intro⟩ True.intro rfl) ?_
  refine Ok.seq ?_
  refine Ok.region Try.tok ?_
  obtain ⟨x1, hx1, h⟩ := bindS h
  refine CallOk.call (w_ref01_count hx1) (LeL.refl _) ?_
  refine Ok.wk (Wk.tab (L := [(5, (vi x1.1)), (6, (.s (List.map cU8 x1.2.1))), (7, (vi x1.2.2))]) (H' := []) ⟨Le.refl _, Le.refl _, Le.refl _, True.intro⟩ True.intro rfl) ?_
  refine Ok.seq ?_
  refine Ok.seq ?_
  refine Ok.region Try.tok ?_
  refine Ok.wk (Wk.tab (L := [(5, (vi x1.1)), (6, (.s (List.map cU8 x1.2.1))), (7, (vi x1.2.2)), (15, (vb ((x1.2.2 != 0))))]) (H' := []) ⟨Le.refl _, Le.refl _, Le.refl _, Le.refl _, True.intro⟩ True.intro rfl) ?_
  refine Ok.cond (d := 15) (b := (x1.2.2 != 0)) rfl h (fun hb h => ?_) fun hb h => ?_
  · refine Ok.seq ?_
    refine Ok.region Try.tok ?_
    refine Ok.wk (Wk.tab (L := [(2, (vs ([]))), (3, (.v (.slice none 0 0))), (4, (vi x1.2.2))]) (H' := []) ⟨Le.refl _, Le.refl _, Le.refl _, True.intro⟩ True.intro rfl) ?_
    refine Ok.ret ?_
    cases h
    exact (Fz.t (.cons Fz.v (.cons Fz.nil (.cons Fz.v .nil))))
  · refine Ok.skip ?_
    refine Ok.seq ?_
    refine Ok.draw (m := 10) Try.tok Try.mixed (by kernel_rfl) ?_
    obtain ⟨hc1, h⟩ := chk_some h
    obtain ⟨hc2, h⟩ := chk_some h
    refine ⟨_, rfl, ⟨_, rfl, ⟨_, ⟨_, sl_nat hc1.1, Nat.zero_le _, sl_len hc1, rowsK (f := cU8) (K := 1) (fun _ => rfl) x1.2.1, _, sl_take _ _ _, rfl⟩, ⟨_, ⟨_, rfl, rfl⟩, ⟨_, rfl, ⟨_, rfl, ⟨_, ⟨_, sl_nat hc2.1, sl_len hc2, Nat.le_refl _, rowsK (f := cU8) (K := 1) (fun _ => rfl) x1.2.1, _, sl_drop _ _ _, rfl⟩, ⟨_, rfl, ⟨_, rfl, ⟨_, rfl, ?_⟩⟩⟩⟩⟩⟩⟩⟩⟩⟩
    refine Ok.wk (Wk.tab (L := [(2, (vs ((x1.2.1.take x1.1.toNat)))), (3, (.s (List.map cU8 ((x1.2.1.drop x1.1.toNat))))), (4, (vi (0)))]) (H' := []) ⟨Le.refl _, Le.refl _, Le.refl _, True.intro⟩ True.intro rfl) ?_
    refine Ok.ret ?_
    cases h
    exact (Fz.t (.cons Fz.v (.cons Fz.s (.cons Fz.v .nil))))

theorem w_ref01_ReadInts {p_b : List UInt8} {r : (List Int) × (List UInt8) × Int} (h : ref01_ReadInts p_b = some r) : Pure Try.prog 79 [(.s (List.map cU8 p_b))] (.t [(.s (List.map encI r.1)), (.s (List.map cU8 r.2.1)), (vi r.2.2)]) := by
  refine pure_of_ok (n := 44) (c := (Try.f79.body.getD .skip)) Try.tok Try.func79 (by kernel_rfl) rfl rfl (Nat.le_of_ble_eq_true rfl) ?_
  unfold ref01_ReadInts at h
  refine Ok.wk (Wk.tab (L := [(0, (.s (List.map cU8 p_b)))]) (H' := []) ⟨Le.refl _, True.intro⟩ True.intro rfl) ?_
  refine Ok.seq ?_
  refine Ok.region Try.tok ?_
  refine Ok.wk (Wk.tab (L := [(0, (.s (List.map cU8 p_b)))]) (H' := []) ⟨Le.refl _, True.intro⟩ True.intro rfl) ?_
  refine Ok.seq ?_
  refine Ok.region Try.tok ?_
  refine Or.inr ?_
  refine Ok.wk (Wk.tab (L := [(0, (.s (List.map cU8 p_b))), (5, (.o 13))]) (H' := [(13, .own 3 1 (List.map encI (([] : List Int))))]) ⟨Le.refl _, Le.refl _, True.intro⟩ ⟨⟨_, rfl, .refl _⟩, True.intro⟩ rfl) ?_
  refine Ok.seq ?_
  refine Ok.region Try.tok ?_
  obtain ⟨x1, hx1, h⟩ := bindS h
  refine CallOk.call (w_ref01_count hx1) (LeL.refl _) ?_
  refine Ok.wk (Wk.tab (L := [(5, (.o 13)), (6, (vi x1.1)), (7, (.s (List.map cU8 x1.2.1))), (8, (vi x1.2.2))]) (H' := [(13, .own 3 1 (List.map encI (([] : List Int))))]) ⟨Le.refl _, Le.refl _, Le.refl _, Le.refl _, True.intro⟩ ⟨⟨_, rfl, .refl _⟩, True.intro⟩ rfl) ?_
  refine Ok.seq ?_
  refine Ok.seq ?_
  refine Ok.region Try.tok ?_
  refine Ok.wk (Wk.tab (L := [(5, (.o 13)), (6, (vi x1.1)), (7, (.s (List.map cU8 x1.2.1))), (8, (vi x1.2.2)), (21, (vb ((x1.2.2 != 0))))]) (H' := [(13, .own 3 1 (List.map encI (([] : List Int))))]) ⟨Le.refl _, Le.refl _, Le.refl _, Le.refl _, Le.refl _, True.intro⟩ ⟨⟨_, rfl, .refl _⟩, True.intro⟩ rfl) ?_
  refine Ok.cond (d := 21) (b := (x1.2.2 != 0)) rfl h (fun hb h => ?_) fun hb h => ?_
  · refine Ok.seq ?_
    refine Ok.region Try.tok ?_
    refine Ok.wk (Wk.tab (L := [(2, (.v (.slice none 0 0))), (3, (.v (.slice none 0 0))), (4, (vi x1.2.2))]) (H' := []) ⟨Le.refl _, Le.refl _, Le.refl _, True.intro⟩ True.intro rfl) ?_
    refine Ok.ret ?_
    cases h
    exact (Fz.t (.cons Fz.nil (.cons Fz.nil (.cons Fz.v .nil))))
  · refine Ok.skip ?_
    refine Ok.seqj (fun v1 => ⟨Cat.tab [(5, (.o 13)), (7, (.s (List.map cU8 v1.1)))], [(13, .own 3 1 (List.map encI v1.2))]⟩) (fun v1 => ref01_ReadInts_J1 v1 = some r) ?_ ?_
    · refine Ok.seq ?_
      refine Ok.region Try.tok ?_
      refine Ok.wk (Wk.tab (L := [(5, (.o 13)), (6, (vi x1.1)), (7, (.s (List.map cU8 x1.2.1))), (9, (vi (0)))]) (H' := [(13, .own 3 1 (List.map encI (([] : List Int))))]) ⟨Le.refl _, Le.refl _, Le.refl _, Le.refl _, True.intro⟩ ⟨⟨_, rfl, .refl _⟩, True.intro⟩ rfl) ?_
      refine Ok.block ?_
      refine Ok.loop (fun s1 => ⟨Cat.tab [(5, (.o 13)), (6, (vi x1.1)), (7, (.s (List.map cU8 s1.1))), (9, (vi s1.2.1))], [(13, .own 3 1 (List.map encI s1.2.2))]⟩) (ref01_ReadInts_B1 x1) (s0 := (x1.2.1, 0, ([] : List Int))) h (Wk.tab ⟨Le.refl _, Le.refl _, Le.refl _, Le.refl _, True.intro⟩ ⟨⟨_, rfl, .refl _⟩, True.intro⟩ rfl) ?_
      intro s1 y1 hB1 hy1
      unfold ref01_ReadInts_B1 at hB1
      refine Ok.seq ?_
      refine Ok.seq ?_
      refine Ok.region Try.tok ?_
      refine Ok.wk (Wk.tab (L := [(5, (.o 13)), (6, (vi x1.1)), (7, (.s (List.map cU8 s1.1))), (9, (vi s1.2.1)), (25, (vb ((decide (s1.2.1 < x1.1)))))]) (H' := [(13, .own 3 1 (List.map encI s1.2.2))]) ⟨Le.refl _, Le.refl _, Le.refl _, Le.refl _, Le.refl _, True.intro⟩ ⟨⟨_, rfl, .refl _⟩, True.intro⟩ rfl) ?_
      refine Ok.cond (d := 25) (b := (decide (s1.2.1 < x1.1))) rfl hB1 (fun hb hB1 => ?_) fun hb hB1 => ?_
      · refine Ok.skip ?_
        refine Ok.seq ?_
        refine Ok.block ?_
        refine Ok.seq ?_
        refine Ok.region Try.tok ?_
        obtain ⟨x2, hx2, hB1⟩ := bindS hB1
        refine CallOk.call (w_ref01_ReadInt hx2) (LeL.refl _) ?_
        refine Ok.wk (Wk.tab (L := [(5, (.o 13)), (6, (vi x1.1)), (9, (vi s1.2.1)), (10, (vi x2.1)), (11, (.s (List.map cU8 x2.2.1))), (12, (vi x2.2.2))]) (H' := [(13, .own 3 1 (List.map encI s1.2.2))]) ⟨Le.refl _, Le.refl _, Le.refl _, Le.refl _, Le.refl _, Le.refl _, True.intro⟩ ⟨⟨_, rfl, .refl _⟩, True.intro⟩ rfl) ?_
        refine Ok.seq ?_
        refine Ok.seq ?_
        refine Ok.region Try.tok ?_
        refine Ok.wk (Wk.tab (L := [(5, (.o 13)), (6, (vi x1.1)), (9, (vi s1.2.1)), (10, (vi x2.1)), (11, (.s (List.map cU8 x2.2.1))), (12, (vi x2.2.2)), (35, (vb ((x2.2.2 != 0))))]) (H' := [(13, .own 3 1 (List.map encI s1.2.2))]) ⟨Le.refl _, Le.refl _, Le.refl _, Le.refl _, Le.refl _, Le.refl _, Le.refl _, True.intro⟩ ⟨⟨_, rfl, .refl _⟩, True.intro⟩ rfl) ?_
        refine Ok.cond (d := 35) (b := (x2.2.2 != 0)) rfl hB1 (fun hb hB1 => ?_) fun hb hB1 => ?_
        · refine Ok.seq ?_
          refine Ok.region Try.tok ?_
          refine Ok.wk (Wk.tab (L := [(2, (.v (.slice none 0 0))), (3, (.v (.slice none 0 0))), (4, (vi x2.2.2))]) (H' := []) ⟨Le.refl _, Le.refl _, Le.refl _, True.intro⟩ True.intro rfl) ?_
          refine Ok.ret ?_
          have hB1 := out_ret hB1 hy1
          cases hB1
          exact (Fz.t (.cons Fz.nil (.cons Fz.nil (.cons Fz.v .nil))))
        · refine Ok.skip ?_
          refine Ok.seq ?_
          refine Ok.region Try.tok ?_
          obtain ⟨hc1, hB1⟩ := chk_some hB1
          refine Or.inl ⟨rowsLen_map (f := encI) (n := 1) (fun _ => rfl) ([x2.1]), app_b2 (f := encI) (l := s1.2.2) (l' := ([x2.1])) hc1, _, (List.map_append (f := encI) (l₁ := s1.2.2) (l₂ := ([x2.1]))).symm, ?_⟩
          refine Ok.wk (Wk.tab (L := [(5, (.o 13)), (6, (vi x1.1)), (9, (vi s1.2.1)), (11, (.s (List.map cU8 x2.2.1)))]) (H' := [(13, .own 3 1 (List.map encI ((s1.2.2 ++ [x2.1]))))]) ⟨Le.refl _, Le.refl _, Le.refl _, Le.refl _, True.intro⟩ ⟨⟨_, rfl, .refl _⟩, True.intro⟩ rfl) ?_
          refine Ok.region Try.tok ?_
          refine Ok.wk (Wk.tab (L := [(5, (.o 13)), (6, (vi x1.1)), (7, (.s (List.map cU8 x2.2.1))), (9, (vi s1.2.1))]) (H' := [(13, .own 3 1 (List.map encI ((s1.2.2 ++ [x2.1]))))]) ⟨Le.refl _, Le.refl _, Le.refl _, Le.refl _, True.intro⟩ ⟨⟨_, rfl, .refl _⟩, True.intro⟩ rfl) ?_
          refine Ok.region Try.tok ?_
          obtain ⟨hc2, hB1⟩ := chk_some hB1
          refine ⟨hc2, ?_⟩
          exact ⟨_, (Option.some.inj hB1).symm, Wk.tab ⟨Le.refl _, Le.refl _, Le.refl _, Le.refl _, True.intro⟩ ⟨⟨_, rfl, .refl _⟩, True.intro⟩ rfl⟩
      · refine Ok.exit ?_
        have hB1 := out_ret hB1 hy1
        exact ⟨_, hB1, Wk.tab ⟨Le.refl _, Le.refl _, True.intro⟩ ⟨⟨_, rfl, .refl _⟩, True.intro⟩ rfl⟩
    intro v1 h
    unfold ref01_ReadInts_J1 at h
    refine Ok.seq ?_
    refine Ok.region Try.tok ?_
    refine Ok.wk (Wk.tab (L := [(2, (.o 13)), (3, (.s (List.map cU8 v1.1))), (4, (vi (0)))]) (H' := [(13, .own 3 1 (List.map encI v1.2))]) ⟨Le.refl _, Le.refl _, Le.refl _, True.intro⟩ ⟨⟨_, rfl, .refl _⟩, True.intro⟩ rfl) ?_
    refine Ok.ret ?_
    cases h
    exact (Fz.t (.cons (Fz.o rfl) (.cons Fz.s (.cons Fz.v .nil))))

theorem w_ref25_parsed {p_b : List UInt8} {r : api_Copy × Bool} (h : ref25_parsed p_b = some r) : Pure Try.prog 44 [(.s (List.map cU8 p_b))] (.t [(.a [(vi r.1.Id), (vi r.1.Ver), (.s (List.map cU8 r.1.Data)), (.s (List.map encI r.1.Sums))]), (vb r.2)]) := by
  refine pure_of_ok (n := 63) (c := (Try.f44.body.getD .skip)) Try.tok Try.func44 (by kernel_rfl) rfl rfl (Nat.le_of_ble_eq_true rfl) ?_
  unfold ref25_parsed at h
  refine Ok.wk (Wk.tab (L := [(0, (.s (List.map cU8 p_b)))]) (H' := []) ⟨Le.refl _, True.intro⟩ True.intro rfl) ?_
  refine Ok.seq ?_
  refine Ok.region Try.tok ?_
  refine Ok.wk (Wk.tab (L := [(0, (.s (List.map cU8 p_b))), (2, (.b 2 0))]) (H' := [(2, .box [(vi (0)), (vi (0)), (.v (.slice none 0 0)), (.v (.slice none 0 0))])]) ⟨Le.refl _, Le.refl _, True.intro⟩ ⟨⟨_, rfl, .refl _⟩, True.intro⟩ rfl) ?_
  refine Ok.seq ?_
  refine Ok.region Try.tok ?_
  obtain ⟨x1, hx1, h⟩ := bindS h
  refine CallOk.call (w_ref01_ReadInt hx1) (LeL.refl _) ?_
  refine Ok.wk (Wk.tab (L := [(2, (.b 2 0)), (4, (vi x1.1)), (5, (.s (List.map cU8 x1.2.1))), (6, (vi x1.2.2))]) (H' := [(2, .box [(vi (0)), (vi (0)), (.v (.slice none 0 0)), (.v (.slice none 0 0))])]) ⟨Le.refl _, Le.refl _, Le.refl _, Le.refl _, True.intro⟩ ⟨⟨_, rfl, .refl _⟩, True.intro⟩ rfl) ?_
  refine Ok.seq ?_
  refine Ok.seq ?_
  refine Ok.region Try.tok ?_
  refine Ok.wk (Wk.tab (L := [(2, (.b 2 0)), (4, (vi x1.1)), (5, (.s (List.map cU8 x1.2.1))), (23, (vb ((x1.2.2 != 0))))]) (H' := [(2, .box [(vi (0)), (vi (0)), (.v (.slice none 0 0)), (.v (.slice none 0 0))])]) ⟨Le.refl _, Le.refl _, Le.refl _, Le.refl _, True.intro⟩ ⟨⟨_, rfl, .refl _⟩, True.intro⟩ rfl) ?_
  refine Ok.cond (d := 23) (b := (x1.2.2 != 0)) rfl h (fun hb h => ?_) fun hb h => ?_
  · refine Ok.seq ?_
    refine Ok.region Try.tok ?_
    refine ⟨_, rfl, ?_⟩
    refine Ok.wk (Wk.tab (L := [(2, (.b 2 0)), (3, (vb false))]) (H' := [(2, .box [(vi (0)), (vi (0)), (.v (.slice none 0 0)), (.v (.slice none 0 0))])]) ⟨Le.refl _, Le.refl _, True.intro⟩ ⟨⟨_, rfl, .refl _⟩, True.intro⟩ rfl) ?_
    refine Ok.ret ?_
    cases h
    exact ⟨_, rfl, (Fz.t (.cons (Fz.a (.cons Fz.v (.cons Fz.v (.cons Fz.nil (.cons Fz.nil .nil))))) (.cons Fz.v .nil)))⟩
  · refine Ok.skip ?_
    refine Ok.seq ?_
    refine Ok.region Try.tok ?_
    obtain ⟨x2, hx2, h⟩ := bindS h
    refine CallOk.call (w_ref01_ReadInt hx2) (LeL.refl _) ?_
    refine Ok.wk (Wk.tab (L := [(2, (.b 2 0)), (4, (vi x1.1)), (7, (vi x2.1)), (8, (.s (List.map cU8 x2.2.1))), (9, (vi x2.2.2))]) (H' := [(2, .box [(vi (0)), (vi (0)), (.v (.slice none 0 0)), (.v (.slice none 0 0))])]) ⟨Le.refl _, Le.refl _, Le.refl _, Le.refl _, Le.refl _, True.intro⟩ ⟨⟨_, rfl, .refl _⟩, True.intro⟩ rfl) ?_
    refine Ok.seq ?_
    refine Ok.seq ?_
    refine Ok.region Try.tok ?_
    refine Ok.wk (Wk.tab (L := [(2, (.b 2 0)), (4, (vi x1.1)), (7, (vi x2.1)), (8, (.s (List.map cU8 x2.2.1))), (32, (vb ((x2.2.2 != 0))))]) (H' := [(2, .box [(vi (0)), (vi (0)), (.v (.slice none 0 0)), (.v (.slice none 0 0))])]) ⟨Le.refl _, Le.refl _, Le.refl _, Le.refl _, Le.refl _, True.intro⟩ ⟨⟨_, rfl, .refl _⟩, True.intro⟩ rfl) ?_
    refine Ok.cond (d := 32) (b := (x2.2.2 != 0)) rfl h (fun hb h => ?_) fun hb h => ?_
    · refine Ok.seq ?_
      refine Ok.region Try.tok ?_
      refine ⟨_, rfl, ?_⟩
      refine Ok.wk (Wk.tab (L := [(2, (.b 2 0)), (3, (vb false))]) (H' := [(2, .box [(vi (0)), (vi (0)), (.v (.slice none 0 0)), (.v (.slice none 0 0))])]) ⟨Le.refl _, Le.refl _, True.intro⟩ ⟨⟨_, rfl, .refl _⟩, True.intro⟩ rfl) ?_
      refine Ok.ret ?_
      cases h
      exact ⟨_, rfl, (Fz.t (.cons (Fz.a (.cons Fz.v (.cons Fz.v (.cons Fz.nil (.cons Fz.nil .nil))))) (.cons Fz.v .nil)))⟩
    · refine Ok.skip ?_
      refine Ok.seq ?_
      refine Ok.region Try.tok ?_
      obtain ⟨x3, hx3, h⟩ := bindS h
      refine CallOk.call (w_ref01_ReadStr hx3) (LeL.refl _) ?_
      refine Ok.wk (Wk.tab (L := [(2, (.b 2 0)), (4, (vi x1.1)), (7, (vi x2.1)), (10, (vs x3.1)), (11, (.s (List.map cU8 x3.2.1))), (12, (vi x3.2.2))]) (H' := [(2, .box [(vi (0)), (vi (0)), (.v (.slice none 0 0)), (.v (.slice none 0 0))])]) ⟨Le.refl _, Le.refl _, Le.refl _, Le.refl _, Le.refl _, Le.refl _, True.intro⟩ ⟨⟨_, rfl, .refl _⟩, True.intro⟩ rfl) ?_
      refine Ok.seq ?_
      refine Ok.seq ?_
      refine Ok.region Try.tok ?_
      refine Ok.wk (Wk.tab (L := [(2, (.b 2 0)), (4, (vi x1.1)), (7, (vi x2.1)), (10, (vs x3.1)), (11, (.s (List.map cU8 x3.2.1))), (41, (vb ((x3.2.2 != 0))))]) (H' := [(2, .box [(vi (0)), (vi (0)), (.v (.slice none 0 0)), (.v (.slice none 0 0))])]) ⟨Le.refl _, Le.refl _, Le.refl _, Le.refl _, Le.refl _, Le.refl _, True.intro⟩ ⟨⟨_, rfl, .refl _⟩, True.intro⟩ rfl) ?_
      refine Ok.cond (d := 41) (b := (x3.2.2 != 0)) rfl h (fun hb h => ?_) fun hb h => ?_
      · refine Ok.seq ?_
        refine Ok.region Try.tok ?_
        refine ⟨_, rfl, ?_⟩
        refine Ok.wk (Wk.tab (L := [(2, (.b 2 0)), (3, (vb false))]) (H' := [(2, .box [(vi (0)), (vi (0)), (.v (.slice none 0 0)), (.v (.slice none 0 0))])]) ⟨Le.refl _, Le.refl _, True.intro⟩ ⟨⟨_, rfl, .refl _⟩, True.intro⟩ rfl) ?_
        refine Ok.ret ?_
        cases h
        exact ⟨_, rfl, (Fz.t (.cons (Fz.a (.cons Fz.v (.cons Fz.v (.cons Fz.nil (.cons Fz.nil .nil))))) (.cons Fz.v .nil)))⟩
      · refine Ok.skip ?_
        refine Ok.seq ?_
        refine Ok.region Try.tok ?_
        obtain ⟨x4, hx4, h⟩ := bindS h
        refine CallOk.call (w_ref01_ReadInts hx4) (LeL.refl _) ?_
        refine Ok.wk (Wk.tab (L := [(2, (.b 2 0)), (4, (vi x1.1)), (7, (vi x2.1)), (10, (vs x3.1)), (13, (.s (List.map encI x4.1))), (14, (.s (List.map cU8 x4.2.1))), (15, (vi x4.2.2))]) (H' := [(2, .box [(vi (0)), (vi (0)), (.v (.slice none 0 0)), (.v (.slice none 0 0))])]) ⟨Le.refl _, Le.refl _, Le.refl _, Le.refl _, Le.refl _, Le.refl _, Le.refl _, True.intro⟩ ⟨⟨_, rfl, .refl _⟩, True.intro⟩ rfl) ?_
        refine Ok.seq ?_
        obtain ⟨v1, hv1, h⟩ := bindS h
        refine Ok.seqw ⟨Cat.tab [(2, (.b 2 0)), (4, (vi x1.1)), (7, (vi x2.1)), (10, (vs x3.1)), (13, (.s (List.map encI x4.1))), (55, (vb v1))], [(2, .box [(vi (0)), (vi (0)), (.v (.slice none 0 0)), (.v (.slice none 0 0))])]⟩ ?_ ?_
        · refine Ok.region Try.tok ?_
          obtain ⟨c1, hg1, hv1⟩ := bindS hv1
          refine Br.itf hg1 (fun hb hg1 => ?_) fun hb hg1 => ?_
          · cases hg1
            cases hv1
            exact Wk.tab ⟨Le.refl _, Le.refl _, Le.refl _, Le.refl _, Le.refl _, Le.refl _, True.intro⟩ ⟨⟨_, rfl, .refl _⟩, True.intro⟩ rfl
          · refine ⟨_, List.length_map _, fun _ => ?_⟩
            cases hg1
            cases hv1
            exact Wk.tab ⟨Le.refl _, Le.refl _, Le.refl _, Le.refl _, Le.refl _, Le.refl _, True.intro⟩ ⟨⟨_, rfl, .refl _⟩, True.intro⟩ rfl
        refine Ok.cond (d := 55) (b := v1) rfl h (fun hb h => ?_) fun hb h => ?_
        · refine Ok.seq ?_
          refine Ok.region Try.tok ?_
          refine ⟨_, rfl, ?_⟩
          refine Ok.wk (Wk.tab (L := [(2, (.b 2 0)), (3, (vb false))]) (H' := [(2, .box [(vi (0)), (vi (0)), (.v (.slice none 0 0)), (.v (.slice none 0 0))])]) ⟨Le.refl _, Le.refl _, True.intro⟩ ⟨⟨_, rfl, .refl _⟩, True.intro⟩ rfl) ?_
          refine Ok.ret ?_
          cases h
          exact ⟨_, rfl, (Fz.t (.cons (Fz.a (.cons Fz.v (.cons Fz.v (.cons Fz.nil (.cons Fz.nil .nil))))) (.cons Fz.v .nil)))⟩
        · refine Ok.skip ?_
          refine Ok.seq ?_
          refine Ok.region Try.tok ?_
          obtain ⟨hc1, h⟩ := chk_some h
          refine ⟨str_max hc1, ⟨_, rfl, ?_⟩⟩
          refine Ok.wk (Wk.tab (L := [(2, (.b 2 0)), (3, (vb true))]) (H' := [(2, .box [(vi x1.1), (vi x2.1), (.s (List.map cU8 x3.1)), (.s (List.map encI x4.1))])]) ⟨Le.refl _, Le.refl _, True.intro⟩ ⟨⟨_, rfl, .refl _⟩, True.intro⟩ rfl) ?_
          refine Ok.ret ?_
          cases h
          exact ⟨_, rfl, (Fz.t (.cons (Fz.imm rfl) (.cons Fz.v .nil)))⟩

theorem w_ref02_Bytes {p_a : List UInt8} {p_b : List UInt8} {r : Bool} (h : ref02_Bytes p_a p_b = some r) : Pure Try.prog 45 [(.s (List.map cU8 p_a)), (.s (List.map cU8 p_b))] (vb r) := by
  refine pure_of_ok (n := 26) (c := (Try.f45.body.getD .skip)) Try.tok Try.func45 (by kernel_rfl) rfl rfl (Nat.le_of_ble_eq_true rfl) ?_
  unfold ref02_Bytes at h
  refine Ok.wk (Wk.tab (L := [(0, (.s (List.map cU8 p_a))), (1, (.s (List.map cU8 p_b)))]) (H' := []) ⟨Le.refl _, Le.refl _, True.intro⟩ True.intro rfl) ?_
  refine Ok.seq ?_
  refine Ok.region Try.tok ?_
  refine Ok.wk (Wk.tab (L := [(0, (.s (List.map cU8 p_a))), (1, (.s (List.map cU8 p_b)))]) (H' := []) ⟨Le.refl _, Le.refl _, True.intro⟩ True.intro rfl) ?_
  refine Ok.seq ?_
  refine Ok.seq ?_
  refine Ok.region Try.tok ?_
  refine ⟨_, List.length_map _, fun _ => ⟨_, List.length_map _, fun _ => ?_⟩⟩
  refine Ok.wk (Wk.tab (L := [(0, (.s (List.map cU8 p_a))), (1, (.s (List.map cU8 p_b))), (10, (vb (((p_a.length : Int) != (p_b.length : Int)))))]) (H' := []) ⟨Le.refl _, Le.refl _, Le.refl _, True.intro⟩ True.intro rfl) ?_
  refine Ok.cond (d := 10) (b := ((p_a.length : Int) != (p_b.length : Int))) rfl h (fun hb h => ?_) fun hb h => ?_
  · refine Ok.seq ?_
    refine Ok.region Try.tok ?_
    refine Ok.wk (Wk.tab (L := [(4, (vb false))]) (H' := []) ⟨Le.refl _, True.intro⟩ True.intro rfl) ?_
    refine Ok.ret ?_
    cases h
    exact Fz.v
  · refine Ok.skip ?_
    refine Ok.seqj (fun v1 => ⟨Cat.tab [], []⟩) (fun v1 => ref02_Bytes_J1 v1 = some r) ?_ ?_
    · refine Ok.seq ?_
      refine Ok.region Try.tok ?_
      refine Ok.wk (Wk.tab (L := [(0, (.s (List.map cU8 p_a))), (1, (.s (List.map cU8 p_b))), (5, (vi (0)))]) (H' := []) ⟨Le.refl _, Le.refl _, Le.refl _, True.intro⟩ True.intro rfl) ?_
      refine Ok.block ?_
      refine Ok.loop (fun s1 => ⟨Cat.tab [(0, (.s (List.map cU8 p_a))), (1, (.s (List.map cU8 p_b))), (5, (vi s1))], []⟩) (ref02_Bytes_B1 p_a p_b) (s0 := 0) h (Wk.tab ⟨Le.refl _, Le.refl _, Le.refl _, True.intro⟩ True.intro rfl) ?_
      intro s1 y1 hB1 hy1
      unfold ref02_Bytes_B1 at hB1
      refine Ok.seq ?_
      refine Ok.seq ?_
      refine Ok.region Try.tok ?_
      refine ⟨_, List.length_map _, fun _ => ?_⟩
      refine Ok.wk (Wk.tab (L := [(0, (.s (List.map cU8 p_a))), (1, (.s (List.map cU8 p_b))), (5, (vi s1)), (14, (vb ((decide (s1 < (p_a.length : Int))))))]) (H' := []) ⟨Le.refl _, Le.refl _, Le.refl _, Le.refl _, True.intro⟩ True.intro rfl) ?_
      refine Ok.cond (d := 14) (b := (decide (s1 < (p_a.length : Int)))) rfl hB1 (fun hb hB1 => ?_) fun hb hB1 => ?_
      · refine Ok.skip ?_
        refine Ok.seq ?_
        refine Ok.block ?_
        refine Ok.seq ?_
        refine Ok.draw (m := 9) Try.tok Try.mixed (by kernel_rfl) ?_
        obtain ⟨x1, hx1, hB1⟩ := bindS hB1
        obtain ⟨x2, hx2, hB1⟩ := bindS hB1
        refine ⟨_, rfl, ⟨_, rfl, ⟨_, ⟨_, idx_nat hx1, _, idx_row hx1, rfl⟩, ⟨_, ⟨_, rfl, rfl⟩, ⟨_, rfl, ⟨_, rfl, ⟨_, ⟨_, idx_nat hx2, _, idx_row hx2, rfl⟩, ⟨_, ⟨_, rfl, rfl⟩, ⟨_, rfl, ?_⟩⟩⟩⟩⟩⟩⟩⟩⟩
        refine Ok.wk (Wk.tab (L := [(0, (.s (List.map cU8 p_a))), (1, (.s (List.map cU8 p_b))), (5, (vi s1)), (25, (vb (((x1.toNat : Int) != (x2.toNat : Int)))))]) (H' := []) ⟨Le.refl _, Le.refl _, Le.refl _, Le.refl _, True.intro⟩ True.intro rfl) ?_
        refine Ok.cond (d := 25) (b := ((x1.toNat : Int) != (x2.toNat : Int))) rfl hB1 (fun hb hB1 => ?_) fun hb hB1 => ?_
        · refine Ok.seq ?_
          refine Ok.region Try.tok ?_
          refine Ok.wk (Wk.tab (L := [(4, (vb false))]) (H' := []) ⟨Le.refl _, True.intro⟩ True.intro rfl) ?_
          refine Ok.ret ?_
          have hB1 := out_ret hB1 hy1
          cases hB1
          exact Fz.v
        · refine Ok.skip ?_
          refine Ok.region Try.tok ?_
          obtain ⟨hc1, hB1⟩ := chk_some hB1
          refine ⟨hc1, ?_⟩
          exact ⟨_, (Option.some.inj hB1).symm, Wk.tab ⟨Le.refl _, Le.refl _, Le.refl _, True.intro⟩ True.intro rfl⟩
      · refine Ok.exit ?_
        have hB1 := out_ret hB1 hy1
        exact ⟨_, hB1, Wk.tab True.intro True.intro rfl⟩
    intro v1 h
    unfold ref02_Bytes_J1 at h
    refine Ok.seq ?_
    refine Ok.region Try.tok ?_
    refine Ok.wk (Wk.tab (L := [(4, (vb true))]) (H' := []) ⟨Le.refl _, True.intro⟩ True.intro rfl) ?_
    refine Ok.ret ?_
    cases h
    exact Fz.v

theorem w_ref25_Get {p_d : api_Disk} {p_id : Int} {r : api_Copy × Int} (h : ref25_Get p_d p_id = some r) : Pure Try.prog 15 [(.a [(.s (List.map c_api_Page p_d.Synced)), (.s (List.map c_api_Page p_d.Loose)), (vb p_d.Down)]), (vi p_id)] (.t [(.a [(vi r.1.Id), (vi r.1.Ver), (.s (List.map cU8 r.1.Data)), (.s (List.map encI r.1.Sums))]), (vi r.2)]) := by
  refine pure_of_ok (n := 66) (c := (Try.f15.body.getD .skip)) Try.tok Try.func15 (by kernel_rfl) rfl rfl (Nat.le_of_ble_eq_true rfl) ?_
  unfold ref25_Get at h
  refine Ok.wk (Wk.tab (L := [(0, (.a [(.s (List.map c_api_Page p_d.Synced)), (.s (List.map c_api_Page p_d.Loose)), (vb p_d.Down)])), (1, (vi p_id))]) (H' := []) ⟨Le.refl _, Le.refl _, True.intro⟩ True.intro rfl) ?_
  refine Ok.seq ?_
  refine Ok.region Try.tok ?_
  refine Ok.wk (Wk.tab (L := [(1, (vi p_id)), (2, (.b 2 0)), (4, (.b 4 0))]) (H' := [(2, .box [(.s (List.map c_api_Page p_d.Synced)), (.s (List.map c_api_Page p_d.Loose)), (vb p_d.Down)]), (4, .box [(vi (0)), (vi (0)), (.v (.slice none 0 0)), (.v (.slice none 0 0))])]) ⟨Le.refl _, Le.refl _, Le.refl _, True.intro⟩ ⟨⟨_, rfl, .refl _⟩, ⟨_, rfl, .refl _⟩, True.intro⟩ rfl) ?_
  refine Ok.seq ?_
  obtain ⟨v1, hv1, h⟩ := bindS h
  refine Ok.seqw ⟨Cat.tab [(1, (vi p_id)), (2, (.b 2 0)), (4, (.b 4 0)), (15, (vb v1))], [(2, .box [(.s (List.map c_api_Page p_d.Synced)), (.s (List.map c_api_Page p_d.Loose)), (vb p_d.Down)]), (4, .box [(vi (0)), (vi (0)), (.v (.slice none 0 0)), (.v (.slice none 0 0))])]⟩ ?_ ?_
  · refine Ok.region Try.tok ?_
    obtain ⟨c1, hg1, hv1⟩ := bindS hv1
    refine Br.itf hg1 (fun hb hg1 => ?_) fun hb hg1 => ?_
    · cases hg1
      cases hv1
      exact Wk.tab ⟨Le.refl _, Le.refl _, Le.refl _, Le.refl _, True.intro⟩ ⟨⟨_, rfl, .refl _⟩, ⟨_, rfl, .refl _⟩, True.intro⟩ rfl
    · cases hg1
      cases hv1
      exact Wk.tab ⟨Le.refl _, Le.refl _, Le.refl _, Le.refl _, True.intro⟩ ⟨⟨_, rfl, .refl _⟩, ⟨_, rfl, .refl _⟩, True.intro⟩ rfl
  refine Ok.cond (d := 15) (b := v1) rfl h (fun hb h => ?_) fun hb h => ?_
  · refine Ok.seq ?_
    refine Ok.region Try.tok ?_
    refine ⟨_, rfl, ?_⟩
    refine Ok.wk (Wk.tab (L := [(4, (.b 4 0)), (5, (vi (1)))]) (H' := [(4, .box [(vi (0)), (vi (0)), (.v (.slice none 0 0)), (.v (.slice none 0 0))])]) ⟨Le.refl _, Le.refl _, True.intro⟩ ⟨⟨_, rfl, .refl _⟩, True.intro⟩ rfl) ?_
    refine Ok.ret ?_
    cases h
    exact ⟨_, rfl, (Fz.t (.cons (Fz.a (.cons Fz.v (.cons Fz.v (.cons Fz.nil (.cons Fz.nil .nil))))) (.cons Fz.v .nil)))⟩
  · refine Ok.skip ?_
    refine Ok.seq ?_
    refine Ok.region Try.tok ?_
    obtain ⟨x1, hx1, h⟩ := bindS h
    refine ⟨_, rfl, ?_⟩
    refine CallOk.call (w_ref04_Read hx1) (LeL.refl _) ?_
    refine Ok.wk (Wk.tab (L := [(1, (vi p_id)), (4, (.b 4 0)), (6, (.s (List.map cU8 x1.1))), (7, (vi x1.2))]) (H' := [(4, .box [(vi (0)), (vi (0)), (.v (.slice none 0 0)), (.v (.slice none 0 0))])]) ⟨Le.refl _, Le.refl _, Le.refl _, Le.refl _, True.intro⟩ ⟨⟨_, rfl, .refl _⟩, True.intro⟩ rfl) ?_
    refine Ok.seq ?_
    refine Ok.seq ?_
    refine Ok.region Try.tok ?_
    refine Ok.wk (Wk.tab (L := [(1, (vi p_id)), (4, (.b 4 0)), (6, (.s (List.map cU8 x1.1))), (7, (vi x1.2)), (24, (vb ((x1.2 != 0))))]) (H' := [(4, .box [(vi (0)), (vi (0)), (.v (.slice none 0 0)), (.v (.slice none 0 0))])]) ⟨Le.refl _, Le.refl _, Le.refl _, Le.refl _, Le.refl _, True.intro⟩ ⟨⟨_, rfl, .refl _⟩, True.intro⟩ rfl) ?_
    refine Ok.cond (d := 24) (b := (x1.2 != 0)) rfl h (fun hb h => ?_) fun hb h => ?_
    · refine Ok.seq ?_
      refine Ok.region Try.tok ?_
      refine ⟨_, rfl, ?_⟩
      refine Ok.wk (Wk.tab (L := [(4, (.b 4 0)), (5, (vi x1.2))]) (H' := [(4, .box [(vi (0)), (vi (0)), (.v (.slice none 0 0)), (.v (.slice none 0 0))])]) ⟨Le.refl _, Le.refl _, True.intro⟩ ⟨⟨_, rfl, .refl _⟩, True.intro⟩ rfl) ?_
      refine Ok.ret ?_
      cases h
      exact ⟨_, rfl, (Fz.t (.cons (Fz.a (.cons Fz.v (.cons Fz.v (.cons Fz.nil (.cons Fz.nil .nil))))) (.cons Fz.v .nil)))⟩
    · refine Ok.skip ?_
      refine Ok.seq ?_
      refine Ok.seq ?_
      refine Ok.region Try.tok ?_
      refine ⟨_, List.length_map _, fun _ => ?_⟩
      refine Ok.wk (Wk.tab (L := [(1, (vi p_id)), (4, (.b 4 0)), (6, (.s (List.map cU8 x1.1))), (29, (vb (((x1.1.length : Int) == 0))))]) (H' := [(4, .box [(vi (0)), (vi (0)), (.v (.slice none 0 0)), (.v (.slice none 0 0))])]) ⟨Le.refl _, Le.refl _, Le.refl _, Le.refl _, True.intro⟩ ⟨⟨_, rfl, .refl _⟩, True.intro⟩ rfl) ?_
      refine Ok.cond (d := 29) (b := ((x1.1.length : Int) == 0)) rfl h (fun hb h => ?_) fun hb h => ?_
      · refine Ok.seq ?_
        refine Ok.region Try.tok ?_
        refine ⟨_, rfl, ?_⟩
        refine Ok.wk (Wk.tab (L := [(4, (.b 4 0)), (5, (vi (41)))]) (H' := [(4, .box [(vi (0)), (vi (0)), (.v (.slice none 0 0)), (.v (.slice none 0 0))])]) ⟨Le.refl _, Le.refl _, True.intro⟩ ⟨⟨_, rfl, .refl _⟩, True.intro⟩ rfl) ?_
        refine Ok.ret ?_
        cases h
        exact ⟨_, rfl, (Fz.t (.cons (Fz.a (.cons Fz.v (.cons Fz.v (.cons Fz.nil (.cons Fz.nil .nil))))) (.cons Fz.v .nil)))⟩
      · refine Ok.skip ?_
        refine Ok.seq ?_
        refine Ok.seq ?_
        refine Ok.region Try.tok ?_
        refine ⟨_, List.length_map _, fun _ => ?_⟩
        refine Ok.wk (Wk.tab (L := [(1, (vi p_id)), (4, (.b 4 0)), (6, (.s (List.map cU8 x1.1))), (33, (vb ((decide ((x1.1.length : Int) < 4)))))]) (H' := [(4, .box [(vi (0)), (vi (0)), (.v (.slice none 0 0)), (.v (.slice none 0 0))])]) ⟨Le.refl _, Le.refl _, Le.refl _, Le.refl _, True.intro⟩ ⟨⟨_, rfl, .refl _⟩, True.intro⟩ rfl) ?_
        refine Ok.cond (d := 33) (b := (decide ((x1.1.length : Int) < 4))) rfl h (fun hb h => ?_) fun hb h => ?_
        · refine Ok.seq ?_
          refine Ok.region Try.tok ?_
          refine ⟨_, rfl, ?_⟩
          refine Ok.wk (Wk.tab (L := [(4, (.b 4 0)), (5, (vi (251)))]) (H' := [(4, .box [(vi (0)), (vi (0)), (.v (.slice none 0 0)), (.v (.slice none 0 0))])]) ⟨Le.refl _, Le.refl _, True.intro⟩ ⟨⟨_, rfl, .refl _⟩, True.intro⟩ rfl) ?_
          refine Ok.ret ?_
          cases h
          exact ⟨_, rfl, (Fz.t (.cons (Fz.a (.cons Fz.v (.cons Fz.v (.cons Fz.nil (.cons Fz.nil .nil))))) (.cons Fz.v .nil)))⟩
        · refine Ok.skip ?_
          refine Ok.seq ?_
          refine Ok.region Try.tok ?_
          obtain ⟨hc1, h⟩ := chk_some h
          obtain ⟨hc2, h⟩ := chk_some h
          obtain ⟨x2, hx2, h⟩ := bindS h
          refine ⟨_, List.length_map _, fun _ => ⟨hc1, ⟨_, sl_nat hc2.1, Nat.zero_le _, sl_len hc2, rowsK (f := cU8) (K := 1) (fun _ => rfl) x1.1, _, sl_take _ _ _, ?_⟩⟩⟩
          refine CallOk.call (w_ref25_parsed hx2) (LeL.refl _) ?_
          refine ⟨_, rfl, ?_⟩
          refine Ok.wk (Wk.tab (L := [(1, (vi p_id)), (4, (.b 4 0)), (6, (.s (List.map cU8 x1.1))), (8, (.b 8 0)), (9, (vb x2.2))]) (H' := [(4, .box [(vi (0)), (vi (0)), (.v (.slice none 0 0)), (.v (.slice none 0 0))]), (8, .box [(vi x2.1.Id), (vi x2.1.Ver), (.s (List.map cU8 x2.1.Data)), (.s (List.map encI x2.1.Sums))])]) ⟨Le.refl _, Le.refl _, Le.refl _, Le.refl _, Le.refl _, True.intro⟩ ⟨⟨_, rfl, .refl _⟩, ⟨_, rfl, .refl _⟩, True.intro⟩ rfl) ?_
          refine Ok.seq ?_
          obtain ⟨v2, hv2, h⟩ := bindS h
          refine Ok.seqw ⟨Cat.tab [(4, (.b 4 0)), (8, (.b 8 0)), (63, (vb v2))], [(4, .box [(vi (0)), (vi (0)), (.v (.slice none 0 0)), (.v (.slice none 0 0))]), (8, .box [(vi x2.1.Id), (vi x2.1.Ver), (.s (List.map cU8 x2.1.Data)), (.s (List.map encI x2.1.Sums))])]⟩ ?_ ?_
          · refine Ok.region Try.tok ?_
            obtain ⟨c2, hg2, hv2⟩ := bindS hv2
            refine Br.itf hg2 (fun hb hg2 => ?_) fun hb hg2 => ?_
            · cases hg2
              obtain ⟨c3, hg3, hv2⟩ := bindS hv2
              replace hg3 := iteT hg3
              cases hg3
              obtain ⟨c4, hg4, hv2⟩ := bindS hv2
              replace hg4 := iteT hg4
              cases hg4
              cases hv2
              exact Wk.tab ⟨Le.refl _, Le.refl _, Le.refl _, True.intro⟩ ⟨⟨_, rfl, .refl _⟩, ⟨_, rfl, .refl _⟩, True.intro⟩ rfl
            · obtain ⟨x3, hx3, hg2⟩ := bindS hg2
              refine ⟨_, rfl, ?_⟩
              refine CallOk.call (w_ref25_May hx3) (LeL.refl _) ?_
              cases hg2
              obtain ⟨c3, hg5, hv2⟩ := bindS hv2
              refine Br.itf hg5 (fun hb hg5 => ?_) fun hb hg5 => ?_
              · cases hg5
                obtain ⟨c4, hg6, hv2⟩ := bindS hv2
                replace hg6 := iteT hg6
                cases hg6
                cases hv2
                exact Wk.tab ⟨Le.refl _, Le.refl _, Le.refl _, True.intro⟩ ⟨⟨_, rfl, .refl _⟩, ⟨_, rfl, .refl _⟩, True.intro⟩ rfl
              · refine ⟨_, rfl, ?_⟩
                cases hg5
                obtain ⟨c4, hg7, hv2⟩ := bindS hv2
                refine Br.itf hg7 (fun hb hg7 => ?_) fun hb hg7 => ?_
                · cases hg7
                  cases hv2
                  exact Wk.tab ⟨Le.refl _, Le.refl _, Le.refl _, True.intro⟩ ⟨⟨_, rfl, .refl _⟩, ⟨_, rfl, .refl _⟩, True.intro⟩ rfl
                · obtain ⟨x4, hx4, hg7⟩ := bindS hg7
                  refine ⟨_, rfl, ?_⟩
                  refine CallOk.call (w_ref25_Page hx4) (LeL.refl _) ?_
                  obtain ⟨x5, hx5, hg7⟩ := bindS hg7
                  refine CallOk.call (w_ref02_Bytes hx5) (LeL.refl _) ?_
                  cases hg7
                  cases hv2
                  exact Wk.tab ⟨Le.refl _, Le.refl _, Le.refl _, True.intro⟩ ⟨⟨_, rfl, .refl _⟩, ⟨_, rfl, .refl _⟩, True.intro⟩ rfl
          refine Ok.cond (d := 63) (b := v2) rfl h (fun hb h => ?_) fun hb h => ?_
          · refine Ok.seq ?_
            refine Ok.region Try.tok ?_
            refine ⟨_, rfl, ?_⟩
            refine Ok.wk (Wk.tab (L := [(4, (.b 4 0)), (5, (vi (251)))]) (H' := [(4, .box [(vi (0)), (vi (0)), (.v (.slice none 0 0)), (.v (.slice none 0 0))])]) ⟨Le.refl _, Le.refl _, True.intro⟩ ⟨⟨_, rfl, .refl _⟩, True.intro⟩ rfl) ?_
            refine Ok.ret ?_
            cases h
            exact ⟨_, rfl, (Fz.t (.cons (Fz.a (.cons Fz.v (.cons Fz.v (.cons Fz.nil (.cons Fz.nil .nil))))) (.cons Fz.v .nil)))⟩
          · refine Ok.skip ?_
            refine Ok.seq ?_
            refine Ok.region Try.tok ?_
            refine ⟨_, rfl, ⟨_, rfl, ?_⟩⟩
            refine Ok.wk (Wk.tab (L := [(4, (.b 4 0)), (5, (vi (0)))]) (H' := [(4, .box [(vi x2.1.Id), (vi x2.1.Ver), (.s (List.map cU8 x2.1.Data)), (.s (List.map encI x2.1.Sums))])]) ⟨Le.refl _, Le.refl _, True.intro⟩ ⟨⟨_, rfl, .refl _⟩, True.intro⟩ rfl) ?_
            refine Ok.ret ?_
            cases h
            exact ⟨_, rfl, (Fz.t (.cons (Fz.imm rfl) (.cons Fz.v .nil)))⟩

theorem w_ref25_Lose {p_d : api_Disk} {p_id : Int} {r : api_Disk × Int} (h : ref25_Lose p_d p_id = some r) : Pure Try.prog 17 [(.a [(.s (List.map c_api_Page p_d.Synced)), (.s (List.map c_api_Page p_d.Loose)), (vb p_d.Down)]), (vi p_id)] (.t [(.a [(.s (List.map c_api_Page r.1.Synced)), (.s (List.map c_api_Page r.1.Loose)), (vb r.1.Down)]), (vi r.2)]) := by
  refine pure_of_ok (n := 34) (c := (Try.f17.body.getD .skip)) Try.tok Try.func17 (by kernel_rfl) rfl rfl (Nat.le_of_ble_eq_true rfl) ?_
  unfold ref25_Lose at h
  refine Ok.wk (Wk.tab (L := [(0, (.a [(.s (List.map c_api_Page p_d.Synced)), (.s (List.map c_api_Page p_d.Loose)), (vb p_d.Down)])), (1, (vi p_id))]) (H' := []) ⟨Le.refl _, Le.refl _, True.intro⟩ True.intro rfl) ?_
  refine Ok.seq ?_
  refine Ok.region Try.tok ?_
  refine Ok.wk (Wk.tab (L := [(1, (vi p_id)), (2, (.b 2 0)), (4, (.b 4 0))]) (H' := [(2, .box [(.s (List.map c_api_Page p_d.Synced)), (.s (List.map c_api_Page p_d.Loose)), (vb p_d.Down)]), (4, .box [(.v (.slice none 0 0)), (.v (.slice none 0 0)), (vb false)])]) ⟨Le.refl _, Le.refl _, Le.refl _, True.intro⟩ ⟨⟨_, rfl, .refl _⟩, ⟨_, rfl, .refl _⟩, True.intro⟩ rfl) ?_
  refine Ok.seq ?_
  obtain ⟨v1, hv1, h⟩ := bindS h
  refine Ok.seqw ⟨Cat.tab [(1, (vi p_id)), (2, (.b 2 0)), (4, (.b 4 0)), (13, (vb v1))], [(2, .box [(.s (List.map c_api_Page p_d.Synced)), (.s (List.map c_api_Page p_d.Loose)), (vb p_d.Down)]), (4, .box [(.v (.slice none 0 0)), (.v (.slice none 0 0)), (vb false)])]⟩ ?_ ?_
  · refine Ok.region Try.tok ?_
    obtain ⟨c1, hg1, hv1⟩ := bindS hv1
    refine Br.itf hg1 (fun hb hg1 => ?_) fun hb hg1 => ?_
    · cases hg1
      cases hv1
      exact Wk.tab ⟨Le.refl _, Le.refl _, Le.refl _, Le.refl _, True.intro⟩ ⟨⟨_, rfl, .refl _⟩, ⟨_, rfl, .refl _⟩, True.intro⟩ rfl
    · cases hg1
      cases hv1
      exact Wk.tab ⟨Le.refl _, Le.refl _, Le.refl _, Le.refl _, True.intro⟩ ⟨⟨_, rfl, .refl _⟩, ⟨_, rfl, .refl _⟩, True.intro⟩ rfl
  refine Ok.cond (d := 13) (b := v1) rfl h (fun hb h => ?_) fun hb h => ?_
  · refine Ok.seq ?_
    refine Ok.region Try.tok ?_
    refine ⟨_, rfl, ⟨_, rfl, ?_⟩⟩
    refine Ok.wk (Wk.tab (L := [(4, (.b 4 0)), (5, (vi (1)))]) (H' := [(4, .box [(.s (List.map c_api_Page p_d.Synced)), (.s (List.map c_api_Page p_d.Loose)), (vb p_d.Down)])]) ⟨Le.refl _, Le.refl _, True.intro⟩ ⟨⟨_, rfl, .refl _⟩, True.intro⟩ rfl) ?_
    refine Ok.ret ?_
    cases h
    exact ⟨_, rfl, (Fz.t (.cons (Fz.imm rfl) (.cons Fz.v .nil)))⟩
  · refine Ok.skip ?_
    refine Ok.seq ?_
    refine Ok.region Try.tok ?_
    obtain ⟨x1, hx1, h⟩ := bindS h
    refine ⟨_, rfl, ?_⟩
    refine CallOk.call (w_ref04_Read hx1) (LeL.refl _) ?_
    refine Ok.wk (Wk.tab (L := [(1, (vi p_id)), (2, (.b 2 0)), (4, (.b 4 0)), (6, (.s (List.map cU8 x1.1))), (7, (vi x1.2))]) (H' := [(2, .box [(.s (List.map c_api_Page p_d.Synced)), (.s (List.map c_api_Page p_d.Loose)), (vb p_d.Down)]), (4, .box [(.v (.slice none 0 0)), (.v (.slice none 0 0)), (vb false)])]) ⟨Le.refl _, Le.refl _, Le.refl _, Le.refl _, Le.refl _, True.intro⟩ ⟨⟨_, rfl, .refl _⟩, ⟨_, rfl, .refl _⟩, True.intro⟩ rfl) ?_
    refine Ok.seq ?_
    refine Ok.seq ?_
    refine Ok.region Try.tok ?_
    refine Ok.wk (Wk.tab (L := [(1, (vi p_id)), (2, (.b 2 0)), (4, (.b 4 0)), (6, (.s (List.map cU8 x1.1))), (7, (vi x1.2)), (22, (vb ((x1.2 != 0))))]) (H' := [(2, .box [(.s (List.map c_api_Page p_d.Synced)), (.s (List.map c_api_Page p_d.Loose)), (vb p_d.Down)]), (4, .box [(.v (.slice none 0 0)), (.v (.slice none 0 0)), (vb false)])]) ⟨Le.refl _, Le.refl _, Le.refl _, Le.refl _, Le.refl _, Le.refl _, True.intro⟩ ⟨⟨_, rfl, .refl _⟩, ⟨_, rfl, .refl _⟩, True.intro⟩ rfl) ?_
    refine Ok.cond (d := 22) (b := (x1.2 != 0)) rfl h (fun hb h => ?_) fun hb h => ?_
    · refine Ok.seq ?_
      refine Ok.region Try.tok ?_
      refine ⟨_, rfl, ⟨_, rfl, ?_⟩⟩
      refine Ok.wk (Wk.tab (L := [(4, (.b 4 0)), (5, (vi x1.2))]) (H' := [(4, .box [(.s (List.map c_api_Page p_d.Synced)), (.s (List.map c_api_Page p_d.Loose)), (vb p_d.Down)])]) ⟨Le.refl _, Le.refl _, True.intro⟩ ⟨⟨_, rfl, .refl _⟩, True.intro⟩ rfl) ?_
      refine Ok.ret ?_
      cases h
      exact ⟨_, rfl, (Fz.t (.cons (Fz.imm rfl) (.cons Fz.v .nil)))⟩
    · refine Ok.skip ?_
      refine Ok.seq ?_
      refine Ok.seq ?_
      refine Ok.region Try.tok ?_
      refine ⟨_, List.length_map _, fun _ => ?_⟩
      refine Ok.wk (Wk.tab (L := [(1, (vi p_id)), (2, (.b 2 0)), (4, (.b 4 0)), (27, (vb (((x1.1.length : Int) == 0))))]) (H' := [(2, .box [(.s (List.map c_api_Page p_d.Synced)), (.s (List.map c_api_Page p_d.Loose)), (vb p_d.Down)]), (4, .box [(.v (.slice none 0 0)), (.v (.slice none 0 0)), (vb false)])]) ⟨Le.refl _, Le.refl _, Le.refl _, Le.refl _, True.intro⟩ ⟨⟨_, rfl, .refl _⟩, ⟨_, rfl, .refl _⟩, True.intro⟩ rfl) ?_
      refine Ok.cond (d := 27) (b := ((x1.1.length : Int) == 0)) rfl h (fun hb h => ?_) fun hb h => ?_
      · refine Ok.seq ?_
        refine Ok.region Try.tok ?_
        refine ⟨_, rfl, ⟨_, rfl, ?_⟩⟩
        refine Ok.wk (Wk.tab (L := [(4, (.b 4 0)), (5, (vi (41)))]) (H' := [(4, .box [(.s (List.map c_api_Page p_d.Synced)), (.s (List.map c_api_Page p_d.Loose)), (vb p_d.Down)])]) ⟨Le.refl _, Le.refl _, True.intro⟩ ⟨⟨_, rfl, .refl _⟩, True.intro⟩ rfl) ?_
        refine Ok.ret ?_
        cases h
        exact ⟨_, rfl, (Fz.t (.cons (Fz.imm rfl) (.cons Fz.v .nil)))⟩
      · refine Ok.skip ?_
        refine Ok.seq ?_
        refine Ok.region Try.tok ?_
        obtain ⟨x2, hx2, h⟩ := bindS h
        refine ⟨_, rfl, ?_⟩
        refine CallOk.call (w_ref04_Write hx2) (.cons (Le.refl _) (.cons (Le.refl _) (.cons (Le.nil) (.nil)))) ?_
        refine ⟨_, rfl, ?_⟩
        refine Ok.wk (Wk.tab (L := [(4, (.b 4 0)), (5, (vi x2.2))]) (H' := [(4, .box [(.s (List.map c_api_Page x2.1.Synced)), (.s (List.map c_api_Page x2.1.Loose)), (vb x2.1.Down)])]) ⟨Le.refl _, Le.refl _, True.intro⟩ ⟨⟨_, rfl, .refl _⟩, True.intro⟩ rfl) ?_
        refine Ok.ret ?_
        cases h
        exact ⟨_, rfl, (Fz.t (.cons (Fz.imm rfl) (.cons Fz.v .nil)))⟩

theorem w_ref25_pages {p_a : List api_Page} {p_b : List api_Page} {r : Bool} (h : ref25_pages p_a p_b = some r) : Pure Try.prog 46 [(.s (List.map c_api_Page p_a)), (.s (List.map c_api_Page p_b))] (vb r) := by
  refine pure_of_ok (n := 42) (c := (Try.f46.body.getD .skip)) Try.tok Try.func46 (by kernel_rfl) rfl rfl (Nat.le_of_ble_eq_true rfl) ?_
  unfold ref25_pages at h
  refine Ok.wk (Wk.tab (L := [(0, (.s (List.map c_api_Page p_a))), (1, (.s (List.map c_api_Page p_b)))]) (H' := []) ⟨Le.refl _, Le.refl _, True.intro⟩ True.intro rfl) ?_
  refine Ok.seq ?_
  refine Ok.region Try.tok ?_
  refine Ok.wk (Wk.tab (L := [(0, (.s (List.map c_api_Page p_a))), (1, (.s (List.map c_api_Page p_b)))]) (H' := []) ⟨Le.refl _, Le.refl _, True.intro⟩ True.intro rfl) ?_
  refine Ok.seq ?_
  refine Ok.seq ?_
  refine Ok.region Try.tok ?_
  refine ⟨_, List.length_map _, fun _ => ⟨_, List.length_map _, fun _ => ?_⟩⟩
  refine Ok.wk (Wk.tab (L := [(0, (.s (List.map c_api_Page p_a))), (1, (.s (List.map c_api_Page p_b))), (10, (vb (((p_a.length : Int) != (p_b.length : Int)))))]) (H' := []) ⟨Le.refl _, Le.refl _, Le.refl _, True.intro⟩ True.intro rfl) ?_
  refine Ok.cond (d := 10) (b := ((p_a.length : Int) != (p_b.length : Int))) rfl h (fun hb h => ?_) fun hb h => ?_
  · refine Ok.seq ?_
    refine Ok.region Try.tok ?_
    refine Ok.wk (Wk.tab (L := [(4, (vb false))]) (H' := []) ⟨Le.refl _, True.intro⟩ True.intro rfl) ?_
    refine Ok.ret ?_
    cases h
    exact Fz.v
  · refine Ok.skip ?_
    refine Ok.seqj (fun v1 => ⟨Cat.tab [], []⟩) (fun v1 => ref25_pages_J1 v1 = some r) ?_ ?_
    · refine Ok.seq ?_
      refine Ok.region Try.tok ?_
      refine Ok.wk (Wk.tab (L := [(0, (.s (List.map c_api_Page p_a))), (1, (.s (List.map c_api_Page p_b))), (5, (vi (0)))]) (H' := []) ⟨Le.refl _, Le.refl _, Le.refl _, True.intro⟩ True.intro rfl) ?_
      refine Ok.block ?_
      refine Ok.loop (fun s1 => ⟨Cat.tab [(0, (.s (List.map c_api_Page p_a))), (1, (.s (List.map c_api_Page p_b))), (5, (vi s1))], []⟩) (ref25_pages_B1 p_a p_b) (s0 := 0) h (Wk.tab ⟨Le.refl _, Le.refl _, Le.refl _, True.intro⟩ True.intro rfl) ?_
      intro s1 y1 hB1 hy1
      unfold ref25_pages_B1 at hB1
      refine Ok.seq ?_
      refine Ok.seq ?_
      refine Ok.region Try.tok ?_
      refine ⟨_, List.length_map _, fun _ => ?_⟩
      refine Ok.wk (Wk.tab (L := [(0, (.s (List.map c_api_Page p_a))), (1, (.s (List.map c_api_Page p_b))), (5, (vi s1)), (14, (vb ((decide (s1 < (p_a.length : Int))))))]) (H' := []) ⟨Le.refl _, Le.refl _, Le.refl _, Le.refl _, True.intro⟩ True.intro rfl) ?_
      refine Ok.cond (d := 14) (b := (decide (s1 < (p_a.length : Int)))) rfl hB1 (fun hb hB1 => ?_) fun hb hB1 => ?_
      · refine Ok.skip ?_
        refine Ok.seq ?_
        refine Ok.block ?_
        obtain ⟨v2, hv2, hB1⟩ := bindS hB1
        refine Ok.seqw ⟨Cat.tab [(0, (.s (List.map c_api_Page p_a))), (1, (.s (List.map c_api_Page p_b))), (5, (vi s1)), (41, (vb v2))], []⟩ ?_ ?_
        · refine Ok.draw (m := 25) Try.tok Try.mixed (by kernel_rfl) ?_
          obtain ⟨x1, hx1, hv2⟩ := bindS hv2
          obtain ⟨x2, hx2, hv2⟩ := bindS hv2
          refine ⟨_, rfl, ⟨_, rfl, ⟨_, ⟨_, idx_nat hx1, _, idx_row hx1, rfl⟩, ⟨_, rfl, ⟨_, ⟨_, rfl, rfl⟩, ⟨_, rfl, ⟨_, rfl, ⟨_, ⟨_, idx_nat hx2, _, idx_row hx2, rfl⟩, ⟨_, rfl, ⟨_, ⟨_, rfl, rfl⟩, ⟨_, rfl, ⟨_, rfl, ?_⟩⟩⟩⟩⟩⟩⟩⟩⟩⟩⟩⟩
          obtain ⟨c1, hg1, hv2⟩ := bindS hv2
          refine Br.itf hg1 (fun hb hg1 => ?_) fun hb hg1 => ?_
          · cases hg1
            refine ⟨_, rfl, ?_⟩
            cases hv2
            exact Wk.tab ⟨Le.refl _, Le.refl _, Le.refl _, Le.refl _, True.intro⟩ True.intro rfl
          · obtain ⟨x3, hx3, hg1⟩ := bindS hg1
            obtain ⟨x4, hx4, hg1⟩ := bindS hg1
            obtain ⟨x5, hx5, hg1⟩ := bindS hg1
            refine ⟨_, rfl, ⟨_, rfl, ⟨_, ⟨_, idx_nat hx3, _, idx_row hx3, rfl⟩, ⟨_, rfl, ⟨_, ⟨_, rfl, rfl⟩, ⟨_, rfl, ⟨_, rfl, ⟨_, ⟨_, idx_nat hx4, _, idx_row hx4, rfl⟩, ⟨_, rfl, ⟨_, ⟨_, rfl, rfl⟩, ⟨_, ⟨_, .of_pure (w_ref02_Bytes hx5) (LeL.refl _), rfl⟩, ⟨_, rfl, ?_⟩⟩⟩⟩⟩⟩⟩⟩⟩⟩⟩⟩
            cases hg1
            refine ⟨_, rfl, ?_⟩
            cases hv2
            exact Wk.tab ⟨Le.refl _, Le.refl _, Le.refl _, Le.refl _, True.intro⟩ True.intro rfl
        refine Ok.cond (d := 41) (b := v2) rfl hB1 (fun hb hB1 => ?_) fun hb hB1 => ?_
        · refine Ok.seq ?_
          refine Ok.region Try.tok ?_
          refine Ok.wk (Wk.tab (L := [(4, (vb false))]) (H' := []) ⟨Le.refl _, True.intro⟩ True.intro rfl) ?_
          refine Ok.ret ?_
          have hB1 := out_ret hB1 hy1
          cases hB1
          exact Fz.v
        · refine Ok.skip ?_
          refine Ok.region Try.tok ?_
          obtain ⟨hc1, hB1⟩ := chk_some hB1
          refine ⟨hc1, ?_⟩
          exact ⟨_, (Option.some.inj hB1).symm, Wk.tab ⟨Le.refl _, Le.refl _, Le.refl _, True.intro⟩ True.intro rfl⟩
      · refine Ok.exit ?_
        have hB1 := out_ret hB1 hy1
        exact ⟨_, hB1, Wk.tab True.intro True.intro rfl⟩
    intro v1 h
    unfold ref25_pages_J1 at h
    refine Ok.seq ?_
    refine Ok.region Try.tok ?_
    refine Ok.wk (Wk.tab (L := [(4, (vb true))]) (H' := []) ⟨Le.refl _, True.intro⟩ True.intro rfl) ?_
    refine Ok.ret ?_
    cases h
    exact Fz.v

theorem w_ref25_SameDisk {p_a : api_Disk} {p_b : api_Disk} {r : Bool} (h : ref25_SameDisk p_a p_b = some r) : Pure Try.prog 18 [(.a [(.s (List.map c_api_Page p_a.Synced)), (.s (List.map c_api_Page p_a.Loose)), (vb p_a.Down)]), (.a [(.s (List.map c_api_Page p_b.Synced)), (.s (List.map c_api_Page p_b.Loose)), (vb p_b.Down)])] (vb r) := by
  refine pure_of_ok (n := 24) (c := (Try.f18.body.getD .skip)) Try.tok Try.func18 (by kernel_rfl) rfl rfl (Nat.le_of_ble_eq_true rfl) ?_
  unfold ref25_SameDisk at h
  refine Ok.wk (Wk.tab (L := [(0, (.a [(.s (List.map c_api_Page p_a.Synced)), (.s (List.map c_api_Page p_a.Loose)), (vb p_a.Down)])), (1, (.a [(.s (List.map c_api_Page p_b.Synced)), (.s (List.map c_api_Page p_b.Loose)), (vb p_b.Down)]))]) (H' := []) ⟨Le.refl _, Le.refl _, True.intro⟩ True.intro rfl) ?_
  refine Ok.seq ?_
  refine Ok.region Try.tok ?_
  refine Ok.wk (Wk.tab (L := [(2, (.b 2 0)), (3, (.b 3 0))]) (H' := [(2, .box [(.s (List.map c_api_Page p_a.Synced)), (.s (List.map c_api_Page p_a.Loose)), (vb p_a.Down)]), (3, .box [(.s (List.map c_api_Page p_b.Synced)), (.s (List.map c_api_Page p_b.Loose)), (vb p_b.Down)])]) ⟨Le.refl _, Le.refl _, True.intro⟩ ⟨⟨_, rfl, .refl _⟩, ⟨_, rfl, .refl _⟩, True.intro⟩ rfl) ?_
  obtain ⟨v1, hv1, h⟩ := bindS h
  refine Ok.seqw ⟨Cat.tab [(4, (vb v1))], []⟩ ?_ ?_
  · refine Ok.region Try.tok ?_
    obtain ⟨x1, hx1, hv1⟩ := bindS hv1
    refine ⟨_, rfl, ⟨_, rfl, ?_⟩⟩
    refine CallOk.call (w_ref25_pages hx1) (LeL.refl _) ?_
    obtain ⟨c1, hg1, hv1⟩ := bindS hv1
    refine Br.ite hg1 (fun hb hg1 => ?_) fun hb hg1 => ?_
    · obtain ⟨x2, hx2, hg1⟩ := bindS hg1
      refine ⟨_, rfl, ⟨_, rfl, ?_⟩⟩
      refine CallOk.call (w_ref25_pages hx2) (LeL.refl _) ?_
      cases hg1
      obtain ⟨c2, hg2, hv1⟩ := bindS hv1
      refine Br.ite hg2 (fun hb hg2 => ?_) fun hb hg2 => ?_
      · refine ⟨_, rfl, ⟨_, rfl, ?_⟩⟩
        cases hg2
        cases hv1
        exact Wk.tab ⟨Le.refl _, True.intro⟩ True.intro rfl
      · cases hg2
        cases hv1
        exact Wk.tab ⟨Le.refl _, True.intro⟩ True.intro rfl
    · cases hg1
      obtain ⟨c2, hg3, hv1⟩ := bindS hv1
      replace hg3 := iteF hg3
      cases hg3
      cases hv1
      exact Wk.tab ⟨Le.refl _, True.intro⟩ True.intro rfl
  refine Ok.ret ?_
  cases h
  exact Fz.v

theorem w_ref25_Same {p_a : api_Copy} {p_b : api_Copy} {r : Bool} (h : ref25_Same p_a p_b = some r) : Pure Try.prog 19 [(.a [(vi p_a.Id), (vi p_a.Ver), (.s (List.map cU8 p_a.Data)), (.s (List.map encI p_a.Sums))]), (.a [(vi p_b.Id), (vi p_b.Ver), (.s (List.map cU8 p_b.Data)), (.s (List.map encI p_b.Sums))])] (vb r) := by
  refine pure_of_ok (n := 31) (c := (Try.f19.body.getD .skip)) Try.tok Try.func19 (by kernel_rfl) rfl rfl (Nat.le_of_ble_eq_true rfl) ?_
  unfold ref25_Same at h
  refine Ok.wk (Wk.tab (L := [(0, (.a [(vi p_a.Id), (vi p_a.Ver), (.s (List.map cU8 p_a.Data)), (.s (List.map encI p_a.Sums))])), (1, (.a [(vi p_b.Id), (vi p_b.Ver), (.s (List.map cU8 p_b.Data)), (.s (List.map encI p_b.Sums))]))]) (H' := []) ⟨Le.refl _, Le.refl _, True.intro⟩ True.intro rfl) ?_
  refine Ok.seq ?_
  refine Ok.region Try.tok ?_
  refine Ok.wk (Wk.tab (L := [(2, (.b 2 0)), (3, (.b 3 0))]) (H' := [(2, .box [(vi p_a.Id), (vi p_a.Ver), (.s (List.map cU8 p_a.Data)), (.s (List.map encI p_a.Sums))]), (3, .box [(vi p_b.Id), (vi p_b.Ver), (.s (List.map cU8 p_b.Data)), (.s (List.map encI p_b.Sums))])]) ⟨Le.refl _, Le.refl _, True.intro⟩ ⟨⟨_, rfl, .refl _⟩, ⟨_, rfl, .refl _⟩, True.intro⟩ rfl) ?_
  obtain ⟨v1, hv1, h⟩ := bindS h
  refine Ok.seqw ⟨Cat.tab [(4, (vb v1))], []⟩ ?_ ?_
  · refine Ok.region Try.tok ?_
    refine ⟨_, rfl, ⟨_, rfl, ?_⟩⟩
    obtain ⟨c1, hg1, hv1⟩ := bindS hv1
    refine Br.ite hg1 (fun hb hg1 => ?_) fun hb hg1 => ?_
    · refine ⟨_, rfl, ⟨_, rfl, ?_⟩⟩
      cases hg1
      obtain ⟨c2, hg2, hv1⟩ := bindS hv1
      refine Br.ite hg2 (fun hb hg2 => ?_) fun hb hg2 => ?_
      · obtain ⟨x1, hx1, hg2⟩ := bindS hg2
        refine ⟨_, rfl, ⟨_, rfl, ?_⟩⟩
        refine CallOk.call (w_ref02_Bytes hx1) (LeL.refl _) ?_
        cases hg2
        obtain ⟨c3, hg3, hv1⟩ := bindS hv1
        refine Br.ite hg3 (fun hb hg3 => ?_) fun hb hg3 => ?_
        · obtain ⟨x2, hx2, hg3⟩ := bindS hg3
          refine ⟨_, rfl, ⟨_, rfl, ?_⟩⟩
          refine CallOk.call (w_ref02_Ints hx2) (LeL.refl _) ?_
          cases hg3
          cases hv1
          exact Wk.tab ⟨Le.refl _, True.intro⟩ True.intro rfl
        · cases hg3
          cases hv1
          exact Wk.tab ⟨Le.refl _, True.intro⟩ True.intro rfl
      · cases hg2
        obtain ⟨c3, hg4, hv1⟩ := bindS hv1
        replace hg4 := iteF hg4
        cases hg4
        cases hv1
        exact Wk.tab ⟨Le.refl _, True.intro⟩ True.intro rfl
    · cases hg1
      obtain ⟨c2, hg5, hv1⟩ := bindS hv1
      replace hg5 := iteF hg5
      cases hg5
      obtain ⟨c3, hg6, hv1⟩ := bindS hv1
      replace hg6 := iteF hg6
      cases hg6
      cases hv1
      exact Wk.tab ⟨Le.refl _, True.intro⟩ True.intro rfl
  refine Ok.ret ?_
  cases h
  exact Fz.v

theorem wo_ref25_Has {p_d : api_Disk} {r : (List Int)} (h : ref25_Has p_d = some r) : POwn Try.prog 22 [(.a [(.s (List.map c_api_Page p_d.Synced)), (.s (List.map c_api_Page p_d.Loose)), (vb p_d.Down)])] 3 1 (List.map encI r) := by
  refine pown_of_ok (n := 29) (c := (Try.f22.body.getD .skip)) Try.tok Try.func22 (by kernel_rfl) rfl rfl (Nat.le_of_ble_eq_true rfl) ?_
  unfold ref25_Has at h
  refine Ok.wk (Wk.tab (L := [(0, (.a [(.s (List.map c_api_Page p_d.Synced)), (.s (List.map c_api_Page p_d.Loose)), (vb p_d.Down)]))]) (H' := []) ⟨Le.refl _, True.intro⟩ True.intro rfl) ?_
  refine Ok.seq ?_
  refine Ok.region Try.tok ?_
  refine Ok.wk (Wk.tab (L := [(1, (.b 1 0))]) (H' := [(1, .box [(.s (List.map c_api_Page p_d.Synced)), (.s (List.map c_api_Page p_d.Loose)), (vb p_d.Down)])]) ⟨Le.refl _, True.intro⟩ ⟨⟨_, rfl, .refl _⟩, True.intro⟩ rfl) ?_
  refine Ok.seq ?_
  refine Ok.region Try.tok ?_
  refine Ok.wk (Wk.tab (L := [(1, (.b 1 0)), (3, (.v (.slice none 0 0)))]) (H' := [(1, .box [(.s (List.map c_api_Page p_d.Synced)), (.s (List.map c_api_Page p_d.Loose)), (vb p_d.Down)])]) ⟨Le.refl _, Le.refl _, True.intro⟩ ⟨⟨_, rfl, .refl _⟩, True.intro⟩ rfl) ?_
  obtain ⟨v1, hv1, h⟩ := bindS h
  refine Ok.seqw ⟨Cat.tab [(3, (.o 27))], [(27, .own 3 1 (List.map encI v1))]⟩ ?_ ?_
  · refine Ok.seq ?_
    refine Ok.region Try.tok ?_
    refine Ok.wk (Wk.tab (L := [(1, (.b 1 0)), (3, (.v (.slice none 0 0))), (4, (vi (0)))]) (H' := [(1, .box [(.s (List.map c_api_Page p_d.Synced)), (.s (List.map c_api_Page p_d.Loose)), (vb p_d.Down)])]) ⟨Le.refl _, Le.refl _, Le.refl _, True.intro⟩ ⟨⟨_, rfl, .refl _⟩, True.intro⟩ rfl) ?_
    refine Ok.block ?_
    refine Ok.loop (fun s1 => ⟨Cat.tab [(1, (.b 1 0)), (3, (.o 27)), (4, (vi s1.1))], [(1, .box [(.s (List.map c_api_Page p_d.Synced)), (.s (List.map c_api_Page p_d.Loose)), (vb p_d.Down)]), (27, .own 3 1 (List.map encI s1.2))]⟩) (ref25_Has_B1 p_d) (s0 := (0, [])) hv1 ((Wk.own0 (t := 3) (id := 27) (E := 3) (K := 1) rfl rfl).trans (Wk.tab ⟨Le.refl _, Le.refl _, Le.refl _, True.intro⟩ ⟨⟨_, rfl, .refl _⟩, ⟨_, rfl, .refl _⟩, True.intro⟩ rfl)) ?_
    intro s1 y1 hB1 hy1
    unfold ref25_Has_B1 at hB1
    refine Ok.seq ?_
    refine Ok.seq ?_
    refine Ok.region Try.tok ?_
    refine Ok.wk (Wk.tab (L := [(1, (.b 1 0)), (3, (.o 27)), (4, (vi s1.1)), (8, (vb ((decide (s1.1 < 200)))))]) (H' := [(1, .box [(.s (List.map c_api_Page p_d.Synced)), (.s (List.map c_api_Page p_d.Loose)), (vb p_d.Down)]), (27, .own 3 1 (List.map encI s1.2))]) ⟨Le.refl _, Le.refl _, Le.refl _, Le.refl _, True.intro⟩ ⟨⟨_, rfl, .refl _⟩, ⟨_, rfl, .refl _⟩, True.intro⟩ rfl) ?_
    refine Ok.cond (d := 8) (b := (decide (s1.1 < 200))) rfl hB1 (fun hb hB1 => ?_) fun hb hB1 => ?_
    · refine Ok.skip ?_
      obtain ⟨v2, hv2, hB1⟩ := bindS hB1
      refine Ok.seqw ⟨Cat.tab [(1, (.b 1 0)), (3, (.o 27)), (4, (vi s1.1))], [(1, .box [(.s (List.map c_api_Page p_d.Synced)), (.s (List.map c_api_Page p_d.Loose)), (vb p_d.Down)]), (27, .own 3 1 (List.map encI v2))]⟩ ?_ ?_
      · refine Ok.block ?_
        refine Ok.seq ?_
        refine Ok.region Try.tok ?_
        obtain ⟨x1, hx1, hv2⟩ := bindS hv2
        refine ⟨_, rfl, ?_⟩
        refine CallOk.call (w_ref04_Read hx1) (LeL.refl _) ?_
        refine Ok.wk (Wk.tab (L := [(1, (.b 1 0)), (3, (.o 27)), (4, (vi s1.1)), (5, (.s (List.map cU8 x1.1))), (6, (vi x1.2))]) (H' := [(1, .box [(.s (List.map c_api_Page p_d.Synced)), (.s (List.map c_api_Page p_d.Loose)), (vb p_d.Down)]), (27, .own 3 1 (List.map encI s1.2))]) ⟨Le.refl _, Le.refl _, Le.refl _, Le.refl _, Le.refl _, True.intro⟩ ⟨⟨_, rfl, .refl _⟩, ⟨_, rfl, .refl _⟩, True.intro⟩ rfl) ?_
        obtain ⟨v3, hv3, hv2⟩ := bindS hv2
        refine Ok.seqw ⟨Cat.tab [(1, (.b 1 0)), (3, (.o 27)), (4, (vi s1.1)), (23, (vb v3))], [(1, .box [(.s (List.map c_api_Page p_d.Synced)), (.s (List.map c_api_Page p_d.Loose)), (vb p_d.Down)]), (27, .own 3 1 (List.map encI s1.2))]⟩ ?_ ?_
        · refine Ok.region Try.tok ?_
          obtain ⟨c1, hg1, hv3⟩ := bindS hv3
          refine Br.ite hg1 (fun hb hg1 => ?_) fun hb hg1 => ?_
          · refine ⟨_, List.length_map _, fun _ => ?_⟩
            cases hg1
            cases hv3
            exact Wk.tab ⟨Le.refl _, Le.refl _, Le.refl _, Le.refl _, True.intro⟩ ⟨⟨_, rfl, .refl _⟩, ⟨_, rfl, .refl _⟩, True.intro⟩ rfl
          · cases hg1
            cases hv3
            exact Wk.tab ⟨Le.refl _, Le.refl _, Le.refl _, Le.refl _, True.intro⟩ ⟨⟨_, rfl, .refl _⟩, ⟨_, rfl, .refl _⟩, True.intro⟩ rfl
        refine Ok.cond (d := 23) (b := v3) rfl hv2 (fun hb hv2 => ?_) fun hb hv2 => ?_
        · refine Ok.region Try.tok ?_
          obtain ⟨hc1, hv2⟩ := chk_some hv2
          refine Or.inl ⟨rowsLen_map (f := encI) (n := 1) (fun _ => rfl) ([s1.1]), app_b2 (f := encI) (l := s1.2) (l' := ([s1.1])) hc1, _, (List.map_append (f := encI) (l₁ := s1.2) (l₂ := ([s1.1]))).symm, ?_⟩
          cases hv2
          exact Wk.tab ⟨Le.refl _, Le.refl _, Le.refl _, True.intro⟩ ⟨⟨_, rfl, .refl _⟩, ⟨_, rfl, .refl _⟩, True.intro⟩ rfl
        · refine Ok.skip ?_
          cases hv2
          exact Wk.tab ⟨Le.refl _, Le.refl _, Le.refl _, True.intro⟩ ⟨⟨_, rfl, .refl _⟩, ⟨_, rfl, .refl _⟩, True.intro⟩ rfl
      refine Ok.region Try.tok ?_
      obtain ⟨hc2, hB1⟩ := chk_some hB1
      refine ⟨hc2, ?_⟩
      exact ⟨_, (Option.some.inj hB1).symm, Wk.tab ⟨Le.refl _, Le.refl _, Le.refl _, True.intro⟩ ⟨⟨_, rfl, .refl _⟩, ⟨_, rfl, .refl _⟩, True.intro⟩ rfl⟩
    · refine Ok.exit ?_
      have hB1 := out_ret hB1 hy1
      cases hB1
      exact Wk.tab ⟨Le.refl _, True.intro⟩ ⟨⟨_, rfl, .refl _⟩, True.intro⟩ rfl
  refine Ok.seq ?_
  refine Ok.region Try.tok ?_
  refine Ok.wk (Wk.tab (L := [(2, (.o 27))]) (H' := [(27, .own 3 1 (List.map encI v1))]) ⟨Le.refl _, True.intro⟩ ⟨⟨_, rfl, .refl _⟩, True.intro⟩ rfl) ?_
  refine Ok.ret ?_
  cases h
  exact (.inr ⟨_, rfl, rfl⟩)
theorem w_ref25_Has {p_d : api_Disk} {r : (List Int)} (h : ref25_Has p_d = some r) : Pure Try.prog 22 [(.a [(.s (List.map c_api_Page p_d.Synced)), (.s (List.map c_api_Page p_d.Loose)), (vb p_d.Down)])] (.s (List.map encI r)) := (wo_ref25_Has h).pure

theorem w_ref25_New {p_id : Int} {p_ver : Int} {p_data : List UInt8} {r : api_Copy} (h : ref25_New p_id p_ver p_data = some r) : Pure Try.prog 24 [(vi p_id), (vi p_ver), (.s (List.map cU8 p_data))] (.a [(vi r.Id), (vi r.Ver), (.s (List.map cU8 r.Data)), (.s (List.map encI r.Sums))]) := by
  refine pure_of_ok (n := 13) (c := (Try.f24.body.getD .skip)) Try.tok Try.func24 (by kernel_rfl) rfl rfl (Nat.le_of_ble_eq_true rfl) ?_
  unfold ref25_New at h
  refine Ok.wk (Wk.tab (L := [(0, (vi p_id)), (1, (vi p_ver)), (2, (.s (List.map cU8 p_data)))]) (H' := []) ⟨Le.refl _, Le.refl _, Le.refl _, True.intro⟩ True.intro rfl) ?_
  refine Ok.seq ?_
  refine Ok.region Try.tok ?_
  refine Ok.wk (Wk.tab (L := [(0, (vi p_id)), (1, (vi p_ver)), (2, (.s (List.map cU8 p_data))), (6, (.b 6 0))]) (H' := [(6, .box [(vi (0)), (vi (0)), (.v (.slice none 0 0)), (.v (.slice none 0 0))])]) ⟨Le.refl _, Le.refl _, Le.refl _, Le.refl _, True.intro⟩ ⟨⟨_, rfl, .refl _⟩, True.intro⟩ rfl) ?_
  refine Ok.seq ?_
  refine Ok.region Try.tok ?_
  obtain ⟨x1, hx1, h⟩ := bindS h
  refine CallOk.call (w_ref02_Blocks hx1) (LeL.refl _) ?_
  refine ⟨_, rfl, ?_⟩
  refine Ok.wk (Wk.tab (L := [(6, (.b 6 0))]) (H' := [(6, .box [(vi p_id), (vi p_ver), (.s (List.map cU8 p_data)), (.s (List.map encI x1))])]) ⟨Le.refl _, True.intro⟩ ⟨⟨_, rfl, .refl _⟩, True.intro⟩ rfl) ?_
  refine Ok.ret ?_
  cases h
  exact ⟨_, rfl, (Fz.imm rfl)⟩

theorem w_law25_ChunkTells {p_d : api_Disk} {p_c : api_Copy} {p_id : Int} {r : Bool} (h : law25_ChunkTells p_d p_c p_id = some r) : Pure Try.prog 3 [(.a [(.s (List.map c_api_Page p_d.Synced)), (.s (List.map c_api_Page p_d.Loose)), (vb p_d.Down)]), (.a [(vi p_c.Id), (vi p_c.Ver), (.s (List.map cU8 p_c.Data)), (.s (List.map encI p_c.Sums))]), (vi p_id)] (vb r) := by
  refine pure_of_ok (n := 117) (c := (Try.f3.body.getD .skip)) Try.tok Try.func3 (by kernel_rfl) rfl rfl (Nat.le_of_ble_eq_true rfl) ?_
  unfold law25_ChunkTells at h
  refine Ok.wk (Wk.tab (L := [(0, (.a [(.s (List.map c_api_Page p_d.Synced)), (.s (List.map c_api_Page p_d.Loose)), (vb p_d.Down)])), (1, (.a [(vi p_c.Id), (vi p_c.Ver), (.s (List.map cU8 p_c.Data)), (.s (List.map encI p_c.Sums))])), (2, (vi p_id))]) (H' := []) ⟨Le.refl _, Le.refl _, Le.refl _, True.intro⟩ True.intro rfl) ?_
  refine Ok.seq ?_
  refine Ok.region Try.tok ?_
  refine Ok.wk (Wk.tab (L := [(2, (vi p_id)), (3, (.b 3 0)), (4, (.b 4 0))]) (H' := [(3, .box [(.s (List.map c_api_Page p_d.Synced)), (.s (List.map c_api_Page p_d.Loose)), (vb p_d.Down)]), (4, .box [(vi p_c.Id), (vi p_c.Ver), (.s (List.map cU8 p_c.Data)), (.s (List.map encI p_c.Sums))])]) ⟨Le.refl _, Le.refl _, Le.refl _, True.intro⟩ ⟨⟨_, rfl, .refl _⟩, ⟨_, rfl, .refl _⟩, True.intro⟩ rfl) ?_
  refine Ok.seq ?_
  refine Ok.region Try.tok ?_
  obtain ⟨x1, hx1, h⟩ := bindS h
  refine CallOk.call (w_law25_head hx1) (LeL.refl _) ?_
  refine Ok.wk (Wk.tab (L := [(2, (vi p_id)), (3, (.b 3 0)), (4, (.b 4 0)), (7, (vb x1))]) (H' := [(3, .box [(.s (List.map c_api_Page p_d.Synced)), (.s (List.map c_api_Page p_d.Loose)), (vb p_d.Down)]), (4, .box [(vi p_c.Id), (vi p_c.Ver), (.s (List.map cU8 p_c.Data)), (.s (List.map encI p_c.Sums))])]) ⟨Le.refl _, Le.refl _, Le.refl _, Le.refl _, True.intro⟩ ⟨⟨_, rfl, .refl _⟩, ⟨_, rfl, .refl _⟩, True.intro⟩ rfl) ?_
  refine Ok.seq ?_
  obtain ⟨v1, hv1, h⟩ := bindS h
  refine Ok.seqw ⟨Cat.tab [(2, (vi p_id)), (3, (.b 3 0)), (4, (.b 4 0)), (7, (vb x1)), (26, (vb v1))], [(3, .box [(.s (List.map c_api_Page p_d.Synced)), (.s (List.map c_api_Page p_d.Loose)), (vb p_d.Down)]), (4, .box [(vi p_c.Id), (vi p_c.Ver), (.s (List.map cU8 p_c.Data)), (.s (List.map encI p_c.Sums))])]⟩ ?_ ?_
  · refine Ok.region Try.tok ?_
    obtain ⟨x2, hx2, hv1⟩ := bindS hv1
    refine ⟨_, rfl, ?_⟩
    refine CallOk.call (w_law25_Great hx2) (LeL.refl _) ?_
    obtain ⟨c1, hg1, hv1⟩ := bindS hv1
    refine Br.itf hg1 (fun hb hg1 => ?_) fun hb hg1 => ?_
    · cases hg1
      cases hv1
      exact Wk.tab ⟨Le.refl _, Le.refl _, Le.refl _, Le.refl _, Le.refl _, True.intro⟩ ⟨⟨_, rfl, .refl _⟩, ⟨_, rfl, .refl _⟩, True.intro⟩ rfl
    · obtain ⟨x3, hx3, hg1⟩ := bindS hg1
      refine ⟨_, rfl, ?_⟩
      refine CallOk.call (w_law25_big hx3) (LeL.refl _) ?_
      cases hg1
      cases hv1
      exact Wk.tab ⟨Le.refl _, Le.refl _, Le.refl _, Le.refl _, Le.refl _, True.intro⟩ ⟨⟨_, rfl, .refl _⟩, ⟨_, rfl, .refl _⟩, True.intro⟩ rfl
  refine Ok.cond (d := 26) (b := v1) rfl h (fun hb h => ?_) fun hb h => ?_
  · refine Ok.seq ?_
    refine Ok.region Try.tok ?_
    refine Ok.wk (Wk.tab (L := [(6, (vb x1))]) (H' := []) ⟨Le.refl _, True.intro⟩ True.intro rfl) ?_
    refine Ok.ret ?_
    cases h
    exact Fz.v
  · refine Ok.skip ?_
    refine Ok.seq ?_
    refine Ok.region Try.tok ?_
    obtain ⟨x4, hx4, h⟩ := bindS h
    refine ⟨_, rfl, ⟨_, rfl, ?_⟩⟩
    refine CallOk.call (w_chunk_Put hx4) (LeL.refl _) ?_
    refine ⟨_, rfl, ?_⟩
    refine Ok.wk (Wk.tab (L := [(2, (vi p_id)), (3, (.b 3 0)), (4, (.b 4 0)), (7, (vb x1)), (8, (.b 8 0)), (9, (vi x4.2))]) (H' := [(3, .box [(.s (List.map c_api_Page p_d.Synced)), (.s (List.map c_api_Page p_d.Loose)), (vb p_d.Down)]), (4, .box [(vi p_c.Id), (vi p_c.Ver), (.s (List.map cU8 p_c.Data)), (.s (List.map encI p_c.Sums))]), (8, .box [(.s (List.map c_api_Page x4.1.Synced)), (.s (List.map c_api_Page x4.1.Loose)), (vb x4.1.Down)])]) ⟨Le.refl _, Le.refl _, Le.refl _, Le.refl _, Le.refl _, Le.refl _, True.intro⟩ ⟨⟨_, rfl, .refl _⟩, ⟨_, rfl, .refl _⟩, ⟨_, rfl, .refl _⟩, True.intro⟩ rfl) ?_
    refine Ok.seq ?_
    refine Ok.region Try.tok ?_
    obtain ⟨x5, hx5, h⟩ := bindS h
    refine ⟨_, rfl, ⟨_, rfl, ?_⟩⟩
    refine CallOk.call (w_ref25_Put hx5) (LeL.refl _) ?_
    refine ⟨_, rfl, ?_⟩
    refine Ok.wk (Wk.tab (L := [(2, (vi p_id)), (3, (.b 3 0)), (4, (.b 4 0)), (7, (vb x1)), (8, (.b 8 0)), (9, (vi x4.2)), (10, (.b 10 0)), (11, (vi x5.2))]) (H' := [(3, .box [(.s (List.map c_api_Page p_d.Synced)), (.s (List.map c_api_Page p_d.Loose)), (vb p_d.Down)]), (4, .box [(vi p_c.Id), (vi p_c.Ver), (.s (List.map cU8 p_c.Data)), (.s (List.map encI p_c.Sums))]), (8, .box [(.s (List.map c_api_Page x4.1.Synced)), (.s (List.map c_api_Page x4.1.Loose)), (vb x4.1.Down)]), (10, .box [(.s (List.map c_api_Page x5.1.Synced)), (.s (List.map c_api_Page x5.1.Loose)), (vb x5.1.Down)])]) ⟨Le.refl _, Le.refl _, Le.refl _, Le.refl _, Le.refl _, Le.refl _, Le.refl _, Le.refl _, True.intro⟩ ⟨⟨_, rfl, .refl _⟩, ⟨_, rfl, .refl _⟩, ⟨_, rfl, .refl _⟩, ⟨_, rfl, .refl _⟩, True.intro⟩ rfl) ?_
    refine Ok.seq ?_
    refine Ok.region Try.tok ?_
    obtain ⟨x6, hx6, h⟩ := bindS h
    refine ⟨_, rfl, ?_⟩
    refine CallOk.call (w_chunk_Get hx6) (LeL.refl _) ?_
    refine ⟨_, rfl, ?_⟩
    refine Ok.wk (Wk.tab (L := [(2, (vi p_id)), (3, (.b 3 0)), (4, (.b 4 0)), (7, (vb x1)), (8, (.b 8 0)), (9, (vi x4.2)), (10, (.b 10 0)), (11, (vi x5.2)), (12, (.b 12 0)), (13, (vi x6.2))]) (H' := [(3, .box [(.s (List.map c_api_Page p_d.Synced)), (.s (List.map c_api_Page p_d.Loose)), (vb p_d.Down)]), (4, .box [(vi p_c.Id), (vi p_c.Ver), (.s (List.map cU8 p_c.Data)), (.s (List.map encI p_c.Sums))]), (8, .box [(.s (List.map c_api_Page x4.1.Synced)), (.s (List.map c_api_Page x4.1.Loose)), (vb x4.1.Down)]), (10, .box [(.s (List.map c_api_Page x5.1.Synced)), (.s (List.map c_api_Page x5.1.Loose)), (vb x5.1.Down)]), (12, .box [(vi x6.1.Id), (vi x6.1.Ver), (.s (List.map cU8 x6.1.Data)), (.s (List.map encI x6.1.Sums))])]) ⟨Le.refl _, Le.refl _, Le.refl _, Le.refl _, Le.refl _, Le.refl _, Le.refl _, Le.refl _, Le.refl _, Le.refl _, True.intro⟩ ⟨⟨_, rfl, .refl _⟩, ⟨_, rfl, .refl _⟩, ⟨_, rfl, .refl _⟩, ⟨_, rfl, .refl _⟩, ⟨_, rfl, .refl _⟩, True.intro⟩ rfl) ?_
    refine Ok.seq ?_
    refine Ok.region Try.tok ?_
    obtain ⟨x7, hx7, h⟩ := bindS h
    refine ⟨_, rfl, ?_⟩
    refine CallOk.call (w_ref25_Get hx7) (LeL.refl _) ?_
    refine ⟨_, rfl, ?_⟩
    refine Ok.wk (Wk.tab (L := [(2, (vi p_id)), (3, (.b 3 0)), (4, (.b 4 0)), (7, (vb x1)), (8, (.b 8 0)), (9, (vi x4.2)), (10, (.b 10 0)), (11, (vi x5.2)), (12, (.b 12 0)), (13, (vi x6.2)), (14, (.b 14 0)), (15, (vi x7.2))]) (H' := [(3, .box [(.s (List.map c_api_Page p_d.Synced)), (.s (List.map c_api_Page p_d.Loose)), (vb p_d.Down)]), (4, .box [(vi p_c.Id), (vi p_c.Ver), (.s (List.map cU8 p_c.Data)), (.s (List.map encI p_c.Sums))]), (8, .box [(.s (List.map c_api_Page x4.1.Synced)), (.s (List.map c_api_Page x4.1.Loose)), (vb x4.1.Down)]), (10, .box [(.s (List.map c_api_Page x5.1.Synced)), (.s (List.map c_api_Page x5.1.Loose)), (vb x5.1.Down)]), (12, .box [(vi x6.1.Id), (vi x6.1.Ver), (.s (List.map cU8 x6.1.Data)), (.s (List.map encI x6.1.Sums))]), (14, .box [(vi x7.1.Id), (vi x7.1.Ver), (.s (List.map cU8 x7.1.Data)), (.s (List.map encI x7.1.Sums))])]) ⟨Le.refl _, Le.refl _, Le.refl _, Le.refl _, Le.refl _, Le.refl _, Le.refl _, Le.refl _, Le.refl _, Le.refl _, Le.refl _, Le.refl _, True.intro⟩ ⟨⟨_, rfl, .refl _⟩, ⟨_, rfl, .refl _⟩, ⟨_, rfl, .refl _⟩, ⟨_, rfl, .refl _⟩, ⟨_, rfl, .refl _⟩, ⟨_, rfl, .refl _⟩, True.intro⟩ rfl) ?_
    refine Ok.seq ?_
    refine Ok.region Try.tok ?_
    obtain ⟨x8, hx8, h⟩ := bindS h
    refine ⟨_, rfl, ?_⟩
    refine CallOk.call (w_chunk_Lose hx8) (LeL.refl _) ?_
    refine ⟨_, rfl, ?_⟩
    refine Ok.wk (Wk.tab (L := [(2, (vi p_id)), (3, (.b 3 0)), (4, (.b 4 0)), (7, (vb x1)), (8, (.b 8 0)), (9, (vi x4.2)), (10, (.b 10 0)), (11, (vi x5.2)), (12, (.b 12 0)), (13, (vi x6.2)), (14, (.b 14 0)), (15, (vi x7.2)), (16, (.b 16 0)), (17, (vi x8.2))]) (H' := [(3, .box [(.s (List.map c_api_Page p_d.Synced)), (.s (List.map c_api_Page p_d.Loose)), (vb p_d.Down)]), (4, .box [(vi p_c.Id), (vi p_c.Ver), (.s (List.map cU8 p_c.Data)), (.s (List.map encI p_c.Sums))]), (8, .box [(.s (List.map c_api_Page x4.1.Synced)), (.s (List.map c_api_Page x4.1.Loose)), (vb x4.1.Down)]), (10, .box [(.s (List.map c_api_Page x5.1.Synced)), (.s (List.map c_api_Page x5.1.Loose)), (vb x5.1.Down)]), (12, .box [(vi x6.1.Id), (vi x6.1.Ver), (.s (List.map cU8 x6.1.Data)), (.s (List.map encI x6.1.Sums))]), (14, .box [(vi x7.1.Id), (vi x7.1.Ver), (.s (List.map cU8 x7.1.Data)), (.s (List.map encI x7.1.Sums))]), (16, .box [(.s (List.map c_api_Page x8.1.Synced)), (.s (List.map c_api_Page x8.1.Loose)), (vb x8.1.Down)])]) ⟨Le.refl _, Le.refl _, Le.refl _, Le.refl _, Le.refl _, Le.refl _, Le.refl _, Le.refl _, Le.refl _, Le.refl _, Le.refl _, Le.refl _, Le.refl _, Le.refl _, True.intro⟩ ⟨⟨_, rfl, .refl _⟩, ⟨_, rfl, .refl _⟩, ⟨_, rfl, .refl _⟩, ⟨_, rfl, .refl _⟩, ⟨_, rfl, .refl _⟩, ⟨_, rfl, .refl _⟩, ⟨_, rfl, .refl _⟩, True.intro⟩ rfl) ?_
    refine Ok.seq ?_
    refine Ok.region Try.tok ?_
    obtain ⟨x9, hx9, h⟩ := bindS h
    refine ⟨_, rfl, ?_⟩
    refine CallOk.call (w_ref25_Lose hx9) (LeL.refl _) ?_
    refine ⟨_, rfl, ?_⟩
    refine Ok.wk (Wk.tab (L := [(2, (vi p_id)), (3, (.b 3 0)), (4, (.b 4 0)), (7, (vb x1)), (8, (.b 8 0)), (9, (vi x4.2)), (10, (.b 10 0)), (11, (vi x5.2)), (12, (.b 12 0)), (13, (vi x6.2)), (14, (.b 14 0)), (15, (vi x7.2)), (16, (.b 16 0)), (17, (vi x8.2)), (18, (.b 18 0)), (19, (vi x9.2))]) (H' := [(3, .box [(.s (List.map c_api_Page p_d.Synced)), (.s (List.map c_api_Page p_d.Loose)), (vb p_d.Down)]), (4, .box [(vi p_c.Id), (vi p_c.Ver), (.s (List.map cU8 p_c.Data)), (.s (List.map encI p_c.Sums))]), (8, .box [(.s (List.map c_api_Page x4.1.Synced)), (.s (List.map c_api_Page x4.1.Loose)), (vb x4.1.Down)]), (10, .box [(.s (List.map c_api_Page x5.1.Synced)), (.s (List.map c_api_Page x5.1.Loose)), (vb x5.1.Down)]), (12, .box [(vi x6.1.Id), (vi x6.1.Ver), (.s (List.map cU8 x6.1.Data)), (.s (List.map encI x6.1.Sums))]), (14, .box [(vi x7.1.Id), (vi x7.1.Ver), (.s (List.map cU8 x7.1.Data)), (.s (List.map encI x7.1.Sums))]), (16, .box [(.s (List.map c_api_Page x8.1.Synced)), (.s (List.map c_api_Page x8.1.Loose)), (vb x8.1.Down)]), (18, .box [(.s (List.map c_api_Page x9.1.Synced)), (.s (List.map c_api_Page x9.1.Loose)), (vb x9.1.Down)])]) ⟨Le.refl _, Le.refl _, Le.refl _, Le.refl _, Le.refl _, Le.refl _, Le.refl _, Le.refl _, Le.refl _, Le.refl _, Le.refl _, Le.refl _, Le.refl _, Le.refl _, Le.refl _, Le.refl _, True.intro⟩ ⟨⟨_, rfl, .refl _⟩, ⟨_, rfl, .refl _⟩, ⟨_, rfl, .refl _⟩, ⟨_, rfl, .refl _⟩, ⟨_, rfl, .refl _⟩, ⟨_, rfl, .refl _⟩, ⟨_, rfl, .refl _⟩, ⟨_, rfl, .refl _⟩, True.intro⟩ rfl) ?_
    obtain ⟨v2, hv2, h⟩ := bindS h
    refine Ok.seqw ⟨Cat.tab [(6, (vb v2))], []⟩ ?_ ?_
    · refine Ok.draw (m := 54) Try.tok Try.mixed (by kernel_rfl) ?_
      refine ⟨_, rfl, ⟨_, rfl, ?_⟩⟩
      obtain ⟨c2, hg2, hv2⟩ := bindS hv2
      refine Br.ite hg2 (fun hb hg2 => ?_) fun hb hg2 => ?_
      · refine ⟨_, rfl, ⟨_, rfl, ⟨_, rfl, ?_⟩⟩⟩
        cases hg2
        refine ⟨_, rfl, ?_⟩
        refine ⟨_, rfl, ?_⟩
        obtain ⟨c3, hg3, hv2⟩ := bindS hv2
        refine Br.ite hg3 (fun hb hg3 => ?_) fun hb hg3 => ?_
        · obtain ⟨x10, hx10, hg3⟩ := bindS hg3
          refine ⟨_, ⟨_, rfl, rfl⟩, ⟨_, ⟨_, rfl, rfl⟩, ⟨_, ⟨_, .of_pure (w_ref25_SameDisk hx10) (LeL.refl _), rfl⟩, ?_⟩⟩⟩
          cases hg3
          refine ⟨_, rfl, ?_⟩
          refine ⟨_, rfl, ?_⟩
          obtain ⟨c4, hg4, hv2⟩ := bindS hv2
          refine Br.ite hg4 (fun hb hg4 => ?_) fun hb hg4 => ?_
          · refine ⟨_, rfl, ⟨_, rfl, ⟨_, rfl, ?_⟩⟩⟩
            cases hg4
            refine ⟨_, rfl, ?_⟩
            refine ⟨_, rfl, ?_⟩
            obtain ⟨c5, hg5, hv2⟩ := bindS hv2
            refine Br.ite hg5 (fun hb hg5 => ?_) fun hb hg5 => ?_
            · obtain ⟨x11, hx11, hg5⟩ := bindS hg5
              refine ⟨_, ⟨_, rfl, rfl⟩, ⟨_, ⟨_, rfl, rfl⟩, ⟨_, ⟨_, .of_pure (w_ref25_Same hx11) (LeL.refl _), rfl⟩, ?_⟩⟩⟩
              cases hg5
              refine ⟨_, rfl, ?_⟩
              refine ⟨_, rfl, ?_⟩
              obtain ⟨c6, hg6, hv2⟩ := bindS hv2
              refine Br.ite hg6 (fun hb hg6 => ?_) fun hb hg6 => ?_
              · refine ⟨_, rfl, ⟨_, rfl, ⟨_, rfl, ?_⟩⟩⟩
                cases hg6
                refine ⟨_, rfl, ?_⟩
                refine ⟨_, rfl, ?_⟩
                obtain ⟨c7, hg7, hv2⟩ := bindS hv2
                refine Br.ite hg7 (fun hb hg7 => ?_) fun hb hg7 => ?_
                · obtain ⟨x12, hx12, hg7⟩ := bindS hg7
                  refine ⟨_, ⟨_, rfl, rfl⟩, ⟨_, ⟨_, rfl, rfl⟩, ⟨_, ⟨_, .of_pure (w_ref25_SameDisk hx12) (LeL.refl _), rfl⟩, ?_⟩⟩⟩
                  cases hg7
                  refine ⟨_, rfl, ?_⟩
                  refine ⟨_, rfl, ?_⟩
                  obtain ⟨c8, hg8, hv2⟩ := bindS hv2
                  refine Br.ite hg8 (fun hb hg8 => ?_) fun hb hg8 => ?_
                  · obtain ⟨x13, hx13, hg8⟩ := bindS hg8
                    obtain ⟨x14, hx14, hg8⟩ := bindS hg8
                    obtain ⟨x15, hx15, hg8⟩ := bindS hg8
                    refine ⟨_, ⟨_, rfl, rfl⟩, ⟨_, ⟨_, .of_pure (w_chunk_Has hx13) (LeL.refl _), rfl⟩, ⟨_, ⟨_, rfl, rfl⟩, ⟨_, ⟨_, .of_pure (w_ref25_Has hx14) (LeL.refl _), rfl⟩, ⟨_, ⟨_, .of_pure (w_ref02_Ints hx15) (LeL.refl _), rfl⟩, ?_⟩⟩⟩⟩⟩
                    cases hg8
                    refine ⟨_, rfl, ?_⟩
                    refine ⟨_, rfl, ?_⟩
                    obtain ⟨c9, hg9, hv2⟩ := bindS hv2
                    refine Br.ite hg9 (fun hb hg9 => ?_) fun hb hg9 => ?_
                    · obtain ⟨x16, hx16, hg9⟩ := bindS hg9
                      obtain ⟨x17, hx17, hg9⟩ := bindS hg9
                      obtain ⟨x18, hx18, hg9⟩ := bindS hg9
                      refine ⟨_, rfl, ⟨_, rfl, ⟨_, ⟨_, rfl, rfl⟩, ⟨_, rfl, ⟨_, ⟨_, rfl, rfl⟩, ⟨_, ⟨_, .of_pure (w_chunk_New hx16) (LeL.refl _), rfl⟩, ⟨_, rfl, ⟨_, rfl, ⟨_, ⟨_, rfl, rfl⟩, ⟨_, rfl, ⟨_, ⟨_, rfl, rfl⟩, ⟨_, ⟨_, .of_pure (w_ref25_New hx17) (LeL.refl _), rfl⟩, ⟨_, ⟨_, .of_pure (w_ref25_Same hx18) (LeL.refl _), rfl⟩, ?_⟩⟩⟩⟩⟩⟩⟩⟩⟩⟩⟩⟩⟩
                      cases hg9
                      refine ⟨_, rfl, ?_⟩
                      refine ⟨_, rfl, ?_⟩
                      cases hv2
                      exact Wk.tab ⟨Le.refl _, True.intro⟩ True.intro rfl
                    · cases hg9
                      refine ⟨_, rfl, ?_⟩
                      refine ⟨_, rfl, ?_⟩
                      cases hv2
                      exact Wk.tab ⟨Le.refl _, True.intro⟩ True.intro rfl
                  · cases hg8
                    refine ⟨_, rfl, ?_⟩
                    refine ⟨_, rfl, ?_⟩
                    obtain ⟨c9, hg10, hv2⟩ := bindS hv2
                    replace hg10 := iteF hg10
                    cases hg10
                    refine ⟨_, rfl, ?_⟩
                    refine ⟨_, rfl, ?_⟩
                    cases hv2
                    exact Wk.tab ⟨Le.refl _, True.intro⟩ True.intro rfl
                · cases hg7
                  refine ⟨_, rfl, ?_⟩
                  refine ⟨_, rfl, ?_⟩
                  obtain ⟨c8, hg11, hv2⟩ := bindS hv2
                  replace hg11 := iteF hg11
                  cases hg11
                  refine ⟨_, rfl, ?_⟩
                  refine ⟨_, rfl, ?_⟩
                  obtain ⟨c9, hg12, hv2⟩ := bindS hv2
                  replace hg12 := iteF hg12
                  cases hg12
                  refine ⟨_, rfl, ?_⟩
                  refine ⟨_, rfl, ?_⟩
                  cases hv2
                  exact Wk.tab ⟨Le.refl _, True.intro⟩ True.intro rfl
              · cases hg6
                refine ⟨_, rfl, ?_⟩
                refine ⟨_, rfl, ?_⟩
                obtain ⟨c7, hg13, hv2⟩ := bindS hv2
                replace hg13 := iteF hg13
                cases hg13
                refine ⟨_, rfl, ?_⟩
                refine ⟨_, rfl, ?_⟩
                obtain ⟨c8, hg14, hv2⟩ := bindS hv2
                replace hg14 := iteF hg14
                cases hg14
                refine ⟨_, rfl, ?_⟩
                refine ⟨_, rfl, ?_⟩
                obtain ⟨c9, hg15, hv2⟩ := bindS hv2
                replace hg15 := iteF hg15
                cases hg15
                refine ⟨_, rfl, ?_⟩
                refine ⟨_, rfl, ?_⟩
                cases hv2
                exact Wk.tab ⟨Le.refl _, True.intro⟩ True.intro rfl
            · cases hg5
              refine ⟨_, rfl, ?_⟩
              refine ⟨_, rfl, ?_⟩
              obtain ⟨c6, hg16, hv2⟩ := bindS hv2
              replace hg16 := iteF hg16
              cases hg16
              refine ⟨_, rfl, ?_⟩
              refine ⟨_, rfl, ?_⟩
              obtain ⟨c7, hg17, hv2⟩ := bindS hv2
              replace hg17 := iteF hg17
              cases hg17
              refine ⟨_, rfl, ?_⟩
              refine ⟨_, rfl, ?_⟩
              obtain ⟨c8, hg18, hv2⟩ := bindS hv2
              replace hg18 := iteF hg18
              cases hg18
              refine ⟨_, rfl, ?_⟩
              refine ⟨_, rfl, ?_⟩
              obtain ⟨c9, hg19, hv2⟩ := bindS hv2
              replace hg19 := iteF hg19
              cases hg19
              refine ⟨_, rfl, ?_⟩
              refine ⟨_, rfl, ?_⟩
              cases hv2
              exact Wk.tab ⟨Le.refl _, True.intro⟩ True.intro rfl
          · cases hg4
            refine ⟨_, rfl, ?_⟩
            refine ⟨_, rfl, ?_⟩
            obtain ⟨c5, hg20, hv2⟩ := bindS hv2
            replace hg20 := iteF hg20
            cases hg20
            refine ⟨_, rfl, ?_⟩
            refine ⟨_, rfl, ?_⟩
            obtain ⟨c6, hg21, hv2⟩ := bindS hv2
            replace hg21 := iteF hg21
            cases hg21
            refine ⟨_, rfl, ?_⟩
            refine ⟨_, rfl, ?_⟩
            obtain ⟨c7, hg22, hv2⟩ := bindS hv2
            replace hg22 := iteF hg22
            cases hg22
            refine ⟨_, rfl, ?_⟩
            refine ⟨_, rfl, ?_⟩
            obtain ⟨c8, hg23, hv2⟩ := bindS hv2
            replace hg23 := iteF hg23
            cases hg23
            refine ⟨_, rfl, ?_⟩
            refine ⟨_, rfl, ?_⟩
            obtain ⟨c9, hg24, hv2⟩ := bindS hv2
            replace hg24 := iteF hg24
            cases hg24
            refine ⟨_, rfl, ?_⟩
            refine ⟨_, rfl, ?_⟩
            cases hv2
            exact Wk.tab ⟨Le.refl _, True.intro⟩ True.intro rfl
        · cases hg3
          refine ⟨_, rfl, ?_⟩
          refine ⟨_, rfl, ?_⟩
          obtain ⟨c4, hg25, hv2⟩ := bindS hv2
          replace hg25 := iteF hg25
          cases hg25
          refine ⟨_, rfl, ?_⟩
          refine ⟨_, rfl, ?_⟩
          obtain ⟨c5, hg26, hv2⟩ := bindS hv2
          replace hg26 := iteF hg26
          cases hg26
          refine ⟨_, rfl, ?_⟩
          refine ⟨_, rfl, ?_⟩
          obtain ⟨c6, hg27, hv2⟩ := bindS hv2
          replace hg27 := iteF hg27
          cases hg27
          refine ⟨_, rfl, ?_⟩
          refine ⟨_, rfl, ?_⟩
          obtain ⟨c7, hg28, hv2⟩ := bindS hv2
          replace hg28 := iteF hg28
          cases hg28
          refine ⟨_, rfl, ?_⟩
          refine ⟨_, rfl, ?_⟩
          obtain ⟨c8, hg29, hv2⟩ := bindS hv2
          replace hg29 := iteF hg29
          cases hg29
          refine ⟨_, rfl, ?_⟩
          refine ⟨_, rfl, ?_⟩
          obtain ⟨c9, hg30, hv2⟩ := bindS hv2
          replace hg30 := iteF hg30
          cases hg30
          refine ⟨_, rfl, ?_⟩
          refine ⟨_, rfl, ?_⟩
          cases hv2
          exact Wk.tab ⟨Le.refl _, True.intro⟩ True.intro rfl
      · cases hg2
        refine ⟨_, rfl, ?_⟩
        refine ⟨_, rfl, ?_⟩
        obtain ⟨c3, hg31, hv2⟩ := bindS hv2
        replace hg31 := iteF hg31
        cases hg31
        refine ⟨_, rfl, ?_⟩
        refine ⟨_, rfl, ?_⟩
        obtain ⟨c4, hg32, hv2⟩ := bindS hv2
        replace hg32 := iteF hg32
        cases hg32
        refine ⟨_, rfl, ?_⟩
        refine ⟨_, rfl, ?_⟩
        obtain ⟨c5, hg33, hv2⟩ := bindS hv2
        replace hg33 := iteF hg33
        cases hg33
        refine ⟨_, rfl, ?_⟩
        refine ⟨_, rfl, ?_⟩
        obtain ⟨c6, hg34, hv2⟩ := bindS hv2
        replace hg34 := iteF hg34
        cases hg34
        refine ⟨_, rfl, ?_⟩
        refine ⟨_, rfl, ?_⟩
        obtain ⟨c7, hg35, hv2⟩ := bindS hv2
        replace hg35 := iteF hg35
        cases hg35
        refine ⟨_, rfl, ?_⟩
        refine ⟨_, rfl, ?_⟩
        obtain ⟨c8, hg36, hv2⟩ := bindS hv2
        replace hg36 := iteF hg36
        cases hg36
        refine ⟨_, rfl, ?_⟩
        refine ⟨_, rfl, ?_⟩
        obtain ⟨c9, hg37, hv2⟩ := bindS hv2
        replace hg37 := iteF hg37
        cases hg37
        refine ⟨_, rfl, ?_⟩
        refine ⟨_, rfl, ?_⟩
        cases hv2
        exact Wk.tab ⟨Le.refl _, True.intro⟩ True.intro rfl
    refine Ok.ret ?_
    cases h
    exact Fz.v

end Go.Proofs
