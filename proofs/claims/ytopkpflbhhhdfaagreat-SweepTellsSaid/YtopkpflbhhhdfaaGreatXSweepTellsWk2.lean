/- The walks of this seat beside the plain programs, part 2. No condition. -/
import Derived.Test.YtopkpflbhhhdfaaGreatXSweepTellsEn
import Derived.Test.YtopkpflbhhhdfaaGreatXSweepTellsWk0
import Derived.Test.YtopkpflbhhhdfaaGreatXSweepTellsWk1
namespace Go.Proofs
set_option linter.all false
open Go Go.Cat
variable [M : Mono]
set_option maxRecDepth 100000

theorem w_ref04_Right {p_d : api_Disk} {r : Bool} (h : ref04_Right p_d = some r) : Pure Tryz.prog 76 [(.a [(.s (List.map c_api_Page p_d.Synced)), (.s (List.map c_api_Page p_d.Loose)), (vb p_d.Down)])] (vb r) := by
  refine pure_of_ok (n := 66) (c := (Tryz.f76.body.getD .skip)) Tryz.tok Tryz.func76 (by kernel_rfl) rfl rfl (Nat.le_of_ble_eq_true rfl) ?_
  unfold ref04_Right at h
  refine Ok.wk (Wk.tab (L := [(0, (.a [(.s (List.map c_api_Page p_d.Synced)), (.s (List.map c_api_Page p_d.Loose)), (vb p_d.Down)]))]) (H' := []) ⟨Le.refl _, True.intro⟩ True.intro rfl) ?_
  refine Ok.seq ?_
  refine Ok.region Tryz.tok ?_
  refine Ok.wk (Wk.tab (L := [(1, (.b 1 0))]) (H' := [(1, .box [(.s (List.map c_api_Page p_d.Synced)), (.s (List.map c_api_Page p_d.Loose)), (vb p_d.Down)])]) ⟨Le.refl _, True.intro⟩ ⟨⟨_, rfl, .refl _⟩, True.intro⟩ rfl) ?_
  refine Ok.seqj (fun v1 => ⟨Cat.tab [(1, (.b 1 0))], [(1, .box [(.s (List.map c_api_Page p_d.Synced)), (.s (List.map c_api_Page p_d.Loose)), (vb p_d.Down)])]⟩) (fun v1 => ref04_Right_J1 p_d v1 = some r) ?_ ?_
  · refine Ok.seq ?_
    refine Ok.region Tryz.tok ?_
    refine Ok.wk (Wk.tab (L := [(1, (.b 1 0)), (3, (vi (0)))]) (H' := [(1, .box [(.s (List.map c_api_Page p_d.Synced)), (.s (List.map c_api_Page p_d.Loose)), (vb p_d.Down)])]) ⟨Le.refl _, Le.refl _, True.intro⟩ ⟨⟨_, rfl, .refl _⟩, True.intro⟩ rfl) ?_
    refine Ok.block ?_
    refine Ok.loop (fun (s1 : Int) => ⟨Cat.tab [(1, (.b 1 0)), (3, (vi s1))], [(1, .box [(.s (List.map c_api_Page p_d.Synced)), (.s (List.map c_api_Page p_d.Loose)), (vb p_d.Down)])]⟩) (ref04_Right_B1 p_d) (s0 := 0) h (Wk.tab ⟨Le.refl _, Le.refl _, True.intro⟩ ⟨⟨_, rfl, .refl _⟩, True.intro⟩ rfl) ?_
    intro s1 y1 hB1 hy1
    unfold ref04_Right_B1 at hB1
    refine Ok.seq ?_
    refine Ok.seq ?_
    refine Ok.region Tryz.tok ?_
    refine ⟨_, rfl, ⟨_, List.length_map _, fun _ => ?_⟩⟩
    refine Ok.wk (Wk.tab (L := [(1, (.b 1 0)), (3, (vi s1)), (11, (vb ((decide (s1 < (p_d.Synced.length : Int))))))]) (H' := [(1, .box [(.s (List.map c_api_Page p_d.Synced)), (.s (List.map c_api_Page p_d.Loose)), (vb p_d.Down)])]) ⟨Le.refl _, Le.refl _, Le.refl _, True.intro⟩ ⟨⟨_, rfl, .refl _⟩, True.intro⟩ rfl) ?_
    refine Ok.cond (d := 11) (b := (decide (s1 < (p_d.Synced.length : Int)))) rfl hB1 (fun hb hB1 => ?_) fun hb hB1 => ?_
    · refine Ok.skip ?_
      refine Ok.seq ?_
      refine Ok.block ?_
      refine Ok.seq ?_
      refine Ok.region Tryz.tok ?_
      obtain ⟨x1, hx1, hB1⟩ := bindS hB1
      obtain ⟨x2, hx2, hB1⟩ := bindS hB1
      refine ⟨_, rfl, ⟨_, idx_nat hx1, _, idx_row hx1, ⟨_, rfl, ?_⟩⟩⟩
      refine CallOk.call (w_ref04_Page hx2) (LeL.refl _) ?_
      refine Ok.wk (Wk.tab (L := [(1, (.b 1 0)), (3, (vi s1)), (4, (vb x2))]) (H' := [(1, .box [(.s (List.map c_api_Page p_d.Synced)), (.s (List.map c_api_Page p_d.Loose)), (vb p_d.Down)])]) ⟨Le.refl _, Le.refl _, Le.refl _, True.intro⟩ ⟨⟨_, rfl, .refl _⟩, True.intro⟩ rfl) ?_
      obtain ⟨v2, hv2, hB1⟩ := bindS hB1
      refine Ok.seqw ⟨Cat.tab [(1, (.b 1 0)), (3, (vi s1)), (41, (vb v2))], [(1, .box [(.s (List.map c_api_Page p_d.Synced)), (.s (List.map c_api_Page p_d.Loose)), (vb p_d.Down)])]⟩ ?_ ?_
      · refine Ok.draw (m := 22) (MD := ⟨[]⟩) (CH := ⟨[]⟩) Tryz.tok Tryz.mixed (by kernel_rfl) ?_
        refine ⟨_, rfl, ⟨_, rfl, ⟨_, rfl, ?_⟩⟩⟩
        obtain ⟨c2, hg1, hv2⟩ := bindS hv2
        refine Br.itf hg1 (fun hb hg1 => ?_) fun hb hg1 => ?_
        · cases hg1
          refine ⟨_, rfl, ?_⟩
          refine ⟨True.intro, ?_⟩
          cases hv2
          exact Wk.tab ⟨Le.refl _, Le.refl _, Le.refl _, True.intro⟩ ⟨⟨_, rfl, .refl _⟩, True.intro⟩ rfl
        · refine ⟨_, rfl, ⟨_, rfl, ⟨_, rfl, ?_⟩⟩⟩
          obtain ⟨c1, hg2, hg1⟩ := bindS hg1
          refine Br.ite hg2 (fun hb hg2 => ?_) fun hb hg2 => ?_
          · obtain ⟨x3, hx3, hg2⟩ := bindS hg2
            obtain ⟨hc1, hg2⟩ := chk_some hg2
            obtain ⟨x4, hx4, hg2⟩ := bindS hg2
            refine ⟨_, rfl, ⟨_, ⟨_, rfl, rfl⟩, ⟨_, rfl, ⟨_, ⟨_, idx_nat hx3, _, idx_row hx3, rfl⟩, ⟨_, rfl, ⟨_, ⟨_, rfl, rfl⟩, ⟨_, rfl, ⟨_, ⟨_, rfl, rfl⟩, ⟨_, rfl, ⟨_, (Or.inl ⟨hc1, rfl⟩), ⟨_, ⟨_, idx_nat hx4, _, idx_row hx4, rfl⟩, ⟨_, rfl, ⟨_, ⟨_, rfl, rfl⟩, ⟨_, rfl, ?_⟩⟩⟩⟩⟩⟩⟩⟩⟩⟩⟩⟩⟩⟩
            cases hg2
            refine ⟨_, rfl, ?_⟩
            cases hg1
            refine ⟨_, rfl, ?_⟩
            refine ⟨True.intro, ?_⟩
            cases hv2
            exact Wk.tab ⟨Le.refl _, Le.refl _, Le.refl _, True.intro⟩ ⟨⟨_, rfl, .refl _⟩, True.intro⟩ rfl
          · cases hg2
            refine ⟨_, rfl, ?_⟩
            cases hg1
            refine ⟨_, rfl, ?_⟩
            refine ⟨True.intro, ?_⟩
            cases hv2
            exact Wk.tab ⟨Le.refl _, Le.refl _, Le.refl _, True.intro⟩ ⟨⟨_, rfl, .refl _⟩, True.intro⟩ rfl
      refine Ok.cond (d := 41) (b := v2) rfl hB1 (fun hb hB1 => ?_) fun hb hB1 => ?_
      · refine Ok.seq ?_
        refine Ok.region Tryz.tok ?_
        refine Ok.wk (Wk.tab (L := [(2, (vb false))]) (H' := []) ⟨Le.refl _, True.intro⟩ True.intro rfl) ?_
        refine Ok.ret ?_
        have hB1 := out_ret hB1 hy1
        cases hB1
        exact Fz.v
      · refine Ok.skip ?_
        refine Ok.region Tryz.tok ?_
        obtain ⟨hc2, hB1⟩ := chk_some hB1
        refine (Or.inl ⟨hc2, ?_⟩)
        exact ⟨_, (Option.some.inj hB1).symm, Wk.tab ⟨Le.refl _, Le.refl _, True.intro⟩ ⟨⟨_, rfl, .refl _⟩, True.intro⟩ rfl⟩
    · refine Ok.exit ?_
      have hB1 := out_ret hB1 hy1
      exact ⟨_, hB1, Wk.tab ⟨Le.refl _, True.intro⟩ ⟨⟨_, rfl, .refl _⟩, True.intro⟩ rfl⟩
  intro v1 h
  unfold ref04_Right_J1 at h
  refine Ok.seqj (fun v3 => ⟨Cat.tab [(1, (.b 1 0))], [(1, .box [(.s (List.map c_api_Page p_d.Synced)), (.s (List.map c_api_Page p_d.Loose)), (vb p_d.Down)])]⟩) (fun v3 => ref04_Right_J2 p_d v3 = some r) ?_ ?_
  · refine Ok.seq ?_
    refine Ok.region Tryz.tok ?_
    refine Ok.wk (Wk.tab (L := [(1, (.b 1 0)), (5, (vi (0)))]) (H' := [(1, .box [(.s (List.map c_api_Page p_d.Synced)), (.s (List.map c_api_Page p_d.Loose)), (vb p_d.Down)])]) ⟨Le.refl _, Le.refl _, True.intro⟩ ⟨⟨_, rfl, .refl _⟩, True.intro⟩ rfl) ?_
    refine Ok.block ?_
    refine Ok.loop (fun (s2 : Int) => ⟨Cat.tab [(1, (.b 1 0)), (5, (vi s2))], [(1, .box [(.s (List.map c_api_Page p_d.Synced)), (.s (List.map c_api_Page p_d.Loose)), (vb p_d.Down)])]⟩) (ref04_Right_B2 p_d) (s0 := 0) h (Wk.tab ⟨Le.refl _, Le.refl _, True.intro⟩ ⟨⟨_, rfl, .refl _⟩, True.intro⟩ rfl) ?_
    intro s2 y2 hB2 hy2
    unfold ref04_Right_B2 at hB2
    refine Ok.seq ?_
    refine Ok.seq ?_
    refine Ok.region Tryz.tok ?_
    refine ⟨_, rfl, ⟨_, List.length_map _, fun _ => ?_⟩⟩
    refine Ok.wk (Wk.tab (L := [(1, (.b 1 0)), (5, (vi s2)), (46, (vb ((decide (s2 < (p_d.Loose.length : Int))))))]) (H' := [(1, .box [(.s (List.map c_api_Page p_d.Synced)), (.s (List.map c_api_Page p_d.Loose)), (vb p_d.Down)])]) ⟨Le.refl _, Le.refl _, Le.refl _, True.intro⟩ ⟨⟨_, rfl, .refl _⟩, True.intro⟩ rfl) ?_
    refine Ok.cond (d := 46) (b := (decide (s2 < (p_d.Loose.length : Int)))) rfl hB2 (fun hb hB2 => ?_) fun hb hB2 => ?_
    · refine Ok.skip ?_
      refine Ok.seq ?_
      refine Ok.block ?_
      refine Ok.seq ?_
      refine Ok.region Tryz.tok ?_
      obtain ⟨x5, hx5, hB2⟩ := bindS hB2
      obtain ⟨x6, hx6, hB2⟩ := bindS hB2
      refine ⟨_, rfl, ⟨_, idx_nat hx5, _, idx_row hx5, ⟨_, rfl, ?_⟩⟩⟩
      refine CallOk.call (w_ref04_Page hx6) (LeL.refl _) ?_
      refine Ok.wk (Wk.tab (L := [(1, (.b 1 0)), (5, (vi s2)), (6, (vb x6))]) (H' := [(1, .box [(.s (List.map c_api_Page p_d.Synced)), (.s (List.map c_api_Page p_d.Loose)), (vb p_d.Down)])]) ⟨Le.refl _, Le.refl _, Le.refl _, True.intro⟩ ⟨⟨_, rfl, .refl _⟩, True.intro⟩ rfl) ?_
      refine Ok.seq ?_
      refine Ok.region Tryz.tok ?_
      refine Ok.wk (Wk.tab (L := [(1, (.b 1 0)), (5, (vi s2)), (56, (vb ((!x6))))]) (H' := [(1, .box [(.s (List.map c_api_Page p_d.Synced)), (.s (List.map c_api_Page p_d.Loose)), (vb p_d.Down)])]) ⟨Le.refl _, Le.refl _, Le.refl _, True.intro⟩ ⟨⟨_, rfl, .refl _⟩, True.intro⟩ rfl) ?_
      refine Ok.cond (d := 56) (b := (!x6)) rfl hB2 (fun hb hB2 => ?_) fun hb hB2 => ?_
      · refine Ok.seq ?_
        refine Ok.region Tryz.tok ?_
        refine Ok.wk (Wk.tab (L := [(2, (vb false))]) (H' := []) ⟨Le.refl _, True.intro⟩ True.intro rfl) ?_
        refine Ok.ret ?_
        have hB2 := out_ret hB2 hy2
        cases hB2
        exact Fz.v
      · refine Ok.skip ?_
        refine Ok.region Tryz.tok ?_
        obtain ⟨hc3, hB2⟩ := chk_some hB2
        refine (Or.inl ⟨hc3, ?_⟩)
        exact ⟨_, (Option.some.inj hB2).symm, Wk.tab ⟨Le.refl _, Le.refl _, True.intro⟩ ⟨⟨_, rfl, .refl _⟩, True.intro⟩ rfl⟩
    · refine Ok.exit ?_
      have hB2 := out_ret hB2 hy2
      exact ⟨_, hB2, Wk.tab ⟨Le.refl _, True.intro⟩ ⟨⟨_, rfl, .refl _⟩, True.intro⟩ rfl⟩
  intro v3 h
  unfold ref04_Right_J2 at h
  obtain ⟨v4, hv4, h⟩ := bindS h
  refine Ok.seqw ⟨Cat.tab [(2, (vb v4))], []⟩ ?_ ?_
  · refine Ok.region Tryz.tok ?_
    refine ⟨_, rfl, ?_⟩
    obtain ⟨c3, hg3, hv4⟩ := bindS hv4
    refine Br.itf hg3 (fun hb hg3 => ?_) fun hb hg3 => ?_
    · cases hg3
      cases hv4
      exact Wk.tab ⟨Le.refl _, True.intro⟩ True.intro rfl
    · refine ⟨_, rfl, ⟨_, List.length_map _, fun _ => ?_⟩⟩
      cases hg3
      cases hv4
      exact Wk.tab ⟨Le.refl _, True.intro⟩ True.intro rfl
  refine Ok.ret ?_
  cases h
  exact Fz.v

theorem w_law25_Great {p_d : api_Disk} {r : Bool} (h : law25_Great p_d = some r) : Pure Tryz.prog 46 [(.a [(.s (List.map c_api_Page p_d.Synced)), (.s (List.map c_api_Page p_d.Loose)), (vb p_d.Down)])] (vb r) := by
  refine pure_of_ok (n := 48) (c := (Tryz.f46.body.getD .skip)) Tryz.tok Tryz.func46 (by kernel_rfl) rfl rfl (Nat.le_of_ble_eq_true rfl) ?_
  unfold law25_Great at h
  refine Ok.wk (Wk.tab (L := [(0, (.a [(.s (List.map c_api_Page p_d.Synced)), (.s (List.map c_api_Page p_d.Loose)), (vb p_d.Down)]))]) (H' := []) ⟨Le.refl _, True.intro⟩ True.intro rfl) ?_
  refine Ok.seq ?_
  refine Ok.region Tryz.tok ?_
  refine Ok.wk (Wk.tab (L := [(1, (.b 1 0))]) (H' := [(1, .box [(.s (List.map c_api_Page p_d.Synced)), (.s (List.map c_api_Page p_d.Loose)), (vb p_d.Down)])]) ⟨Le.refl _, True.intro⟩ ⟨⟨_, rfl, .refl _⟩, True.intro⟩ rfl) ?_
  refine Ok.seq ?_
  obtain ⟨v1, hv1, h⟩ := bindS h
  refine Ok.seqw ⟨Cat.tab [(1, (.b 1 0)), (14, (vb v1))], [(1, .box [(.s (List.map c_api_Page p_d.Synced)), (.s (List.map c_api_Page p_d.Loose)), (vb p_d.Down)])]⟩ ?_ ?_
  · refine Ok.region Tryz.tok ?_
    refine ⟨_, rfl, ⟨_, List.length_map _, fun _ => ?_⟩⟩
    obtain ⟨c1, hg1, hv1⟩ := bindS hv1
    refine Br.itf hg1 (fun hb hg1 => ?_) fun hb hg1 => ?_
    · cases hg1
      cases hv1
      exact Wk.tab ⟨Le.refl _, Le.refl _, True.intro⟩ ⟨⟨_, rfl, .refl _⟩, True.intro⟩ rfl
    · refine ⟨_, rfl, ⟨_, List.length_map _, fun _ => ?_⟩⟩
      cases hg1
      cases hv1
      exact Wk.tab ⟨Le.refl _, Le.refl _, True.intro⟩ ⟨⟨_, rfl, .refl _⟩, True.intro⟩ rfl
  refine Ok.cond (d := 14) (b := v1) rfl h (fun hb h => ?_) fun hb h => ?_
  · refine Ok.seq ?_
    refine Ok.region Tryz.tok ?_
    refine Ok.wk (Wk.tab (L := [(2, (vb true))]) (H' := []) ⟨Le.refl _, True.intro⟩ True.intro rfl) ?_
    refine Ok.ret ?_
    cases h
    exact Fz.v
  · refine Ok.skip ?_
    refine Ok.seqj (fun v2 => ⟨Cat.tab [(1, (.b 1 0))], [(1, .box [(.s (List.map c_api_Page p_d.Synced)), (.s (List.map c_api_Page p_d.Loose)), (vb p_d.Down)])]⟩) (fun v2 => law25_Great_J1 p_d v2 = some r) ?_ ?_
    · refine Ok.seq ?_
      refine Ok.region Tryz.tok ?_
      refine Ok.wk (Wk.tab (L := [(1, (.b 1 0)), (3, (vi (0)))]) (H' := [(1, .box [(.s (List.map c_api_Page p_d.Synced)), (.s (List.map c_api_Page p_d.Loose)), (vb p_d.Down)])]) ⟨Le.refl _, Le.refl _, True.intro⟩ ⟨⟨_, rfl, .refl _⟩, True.intro⟩ rfl) ?_
      refine Ok.block ?_
      refine Ok.loop (fun (s1 : Int) => ⟨Cat.tab [(1, (.b 1 0)), (3, (vi s1))], [(1, .box [(.s (List.map c_api_Page p_d.Synced)), (.s (List.map c_api_Page p_d.Loose)), (vb p_d.Down)])]⟩) (law25_Great_B1 p_d) (s0 := 0) h (Wk.tab ⟨Le.refl _, Le.refl _, True.intro⟩ ⟨⟨_, rfl, .refl _⟩, True.intro⟩ rfl) ?_
      intro s1 y1 hB1 hy1
      unfold law25_Great_B1 at hB1
      refine Ok.seq ?_
      refine Ok.seq ?_
      refine Ok.region Tryz.tok ?_
      refine ⟨_, rfl, ⟨_, List.length_map _, fun _ => ?_⟩⟩
      refine Ok.wk (Wk.tab (L := [(1, (.b 1 0)), (3, (vi s1)), (19, (vb ((decide (s1 < (p_d.Synced.length : Int))))))]) (H' := [(1, .box [(.s (List.map c_api_Page p_d.Synced)), (.s (List.map c_api_Page p_d.Loose)), (vb p_d.Down)])]) ⟨Le.refl _, Le.refl _, Le.refl _, True.intro⟩ ⟨⟨_, rfl, .refl _⟩, True.intro⟩ rfl) ?_
      refine Ok.cond (d := 19) (b := (decide (s1 < (p_d.Synced.length : Int)))) rfl hB1 (fun hb hB1 => ?_) fun hb hB1 => ?_
      · refine Ok.skip ?_
        refine Ok.seq ?_
        refine Ok.block ?_
        refine Ok.seq ?_
        refine Ok.region Tryz.tok ?_
        obtain ⟨x1, hx1, hB1⟩ := bindS hB1
        refine ⟨_, rfl, ⟨_, idx_nat hx1, _, idx_row hx1, ⟨_, rfl, ⟨_, List.length_map _, fun _ => ?_⟩⟩⟩⟩
        refine Ok.wk (Wk.tab (L := [(1, (.b 1 0)), (3, (vi s1)), (29, (vb ((decide ((x1.Data.length : Int) > 200)))))]) (H' := [(1, .box [(.s (List.map c_api_Page p_d.Synced)), (.s (List.map c_api_Page p_d.Loose)), (vb p_d.Down)])]) ⟨Le.refl _, Le.refl _, Le.refl _, True.intro⟩ ⟨⟨_, rfl, .refl _⟩, True.intro⟩ rfl) ?_
        refine Ok.cond (d := 29) (b := (decide ((x1.Data.length : Int) > 200))) rfl hB1 (fun hb hB1 => ?_) fun hb hB1 => ?_
        · refine Ok.seq ?_
          refine Ok.region Tryz.tok ?_
          refine Ok.wk (Wk.tab (L := [(2, (vb true))]) (H' := []) ⟨Le.refl _, True.intro⟩ True.intro rfl) ?_
          refine Ok.ret ?_
          have hB1 := out_ret hB1 hy1
          cases hB1
          exact Fz.v
        · refine Ok.skip ?_
          refine Ok.region Tryz.tok ?_
          obtain ⟨hc1, hB1⟩ := chk_some hB1
          refine (Or.inl ⟨hc1, ?_⟩)
          exact ⟨_, (Option.some.inj hB1).symm, Wk.tab ⟨Le.refl _, Le.refl _, True.intro⟩ ⟨⟨_, rfl, .refl _⟩, True.intro⟩ rfl⟩
      · refine Ok.exit ?_
        have hB1 := out_ret hB1 hy1
        exact ⟨_, hB1, Wk.tab ⟨Le.refl _, True.intro⟩ ⟨⟨_, rfl, .refl _⟩, True.intro⟩ rfl⟩
    intro v2 h
    unfold law25_Great_J1 at h
    refine Ok.seqj (fun v3 => ⟨Cat.tab [(1, (.b 1 0))], [(1, .box [(.s (List.map c_api_Page p_d.Synced)), (.s (List.map c_api_Page p_d.Loose)), (vb p_d.Down)])]⟩) (fun v3 => law25_Great_J2 p_d v3 = some r) ?_ ?_
    · refine Ok.seq ?_
      refine Ok.region Tryz.tok ?_
      refine Ok.wk (Wk.tab (L := [(1, (.b 1 0)), (4, (vi (0)))]) (H' := [(1, .box [(.s (List.map c_api_Page p_d.Synced)), (.s (List.map c_api_Page p_d.Loose)), (vb p_d.Down)])]) ⟨Le.refl _, Le.refl _, True.intro⟩ ⟨⟨_, rfl, .refl _⟩, True.intro⟩ rfl) ?_
      refine Ok.block ?_
      refine Ok.loop (fun (s2 : Int) => ⟨Cat.tab [(1, (.b 1 0)), (4, (vi s2))], [(1, .box [(.s (List.map c_api_Page p_d.Synced)), (.s (List.map c_api_Page p_d.Loose)), (vb p_d.Down)])]⟩) (law25_Great_B2 p_d) (s0 := 0) h (Wk.tab ⟨Le.refl _, Le.refl _, True.intro⟩ ⟨⟨_, rfl, .refl _⟩, True.intro⟩ rfl) ?_
      intro s2 y2 hB2 hy2
      unfold law25_Great_B2 at hB2
      refine Ok.seq ?_
      refine Ok.seq ?_
      refine Ok.region Tryz.tok ?_
      refine ⟨_, rfl, ⟨_, List.length_map _, fun _ => ?_⟩⟩
      refine Ok.wk (Wk.tab (L := [(1, (.b 1 0)), (4, (vi s2)), (34, (vb ((decide (s2 < (p_d.Loose.length : Int))))))]) (H' := [(1, .box [(.s (List.map c_api_Page p_d.Synced)), (.s (List.map c_api_Page p_d.Loose)), (vb p_d.Down)])]) ⟨Le.refl _, Le.refl _, Le.refl _, True.intro⟩ ⟨⟨_, rfl, .refl _⟩, True.intro⟩ rfl) ?_
      refine Ok.cond (d := 34) (b := (decide (s2 < (p_d.Loose.length : Int)))) rfl hB2 (fun hb hB2 => ?_) fun hb hB2 => ?_
      · refine Ok.skip ?_
        refine Ok.seq ?_
        refine Ok.block ?_
        refine Ok.seq ?_
        refine Ok.region Tryz.tok ?_
        obtain ⟨x2, hx2, hB2⟩ := bindS hB2
        refine ⟨_, rfl, ⟨_, idx_nat hx2, _, idx_row hx2, ⟨_, rfl, ⟨_, List.length_map _, fun _ => ?_⟩⟩⟩⟩
        refine Ok.wk (Wk.tab (L := [(1, (.b 1 0)), (4, (vi s2)), (44, (vb ((decide ((x2.Data.length : Int) > 200)))))]) (H' := [(1, .box [(.s (List.map c_api_Page p_d.Synced)), (.s (List.map c_api_Page p_d.Loose)), (vb p_d.Down)])]) ⟨Le.refl _, Le.refl _, Le.refl _, True.intro⟩ ⟨⟨_, rfl, .refl _⟩, True.intro⟩ rfl) ?_
        refine Ok.cond (d := 44) (b := (decide ((x2.Data.length : Int) > 200))) rfl hB2 (fun hb hB2 => ?_) fun hb hB2 => ?_
        · refine Ok.seq ?_
          refine Ok.region Tryz.tok ?_
          refine Ok.wk (Wk.tab (L := [(2, (vb true))]) (H' := []) ⟨Le.refl _, True.intro⟩ True.intro rfl) ?_
          refine Ok.ret ?_
          have hB2 := out_ret hB2 hy2
          cases hB2
          exact Fz.v
        · refine Ok.skip ?_
          refine Ok.region Tryz.tok ?_
          obtain ⟨hc2, hB2⟩ := chk_some hB2
          refine (Or.inl ⟨hc2, ?_⟩)
          exact ⟨_, (Option.some.inj hB2).symm, Wk.tab ⟨Le.refl _, Le.refl _, True.intro⟩ ⟨⟨_, rfl, .refl _⟩, True.intro⟩ rfl⟩
      · refine Ok.exit ?_
        have hB2 := out_ret hB2 hy2
        exact ⟨_, hB2, Wk.tab ⟨Le.refl _, True.intro⟩ ⟨⟨_, rfl, .refl _⟩, True.intro⟩ rfl⟩
    intro v3 h
    unfold law25_Great_J2 at h
    refine Ok.seq ?_
    refine Ok.region Tryz.tok ?_
    obtain ⟨x3, hx3, h⟩ := bindS h
    refine ⟨_, rfl, ?_⟩
    refine CallOk.call (w_ref04_Right hx3) (LeL.refl _) ?_
    refine Ok.wk (Wk.tab (L := [(2, (vb ((!x3))))]) (H' := []) ⟨Le.refl _, True.intro⟩ True.intro rfl) ?_
    refine Ok.ret ?_
    cases h
    exact Fz.v

theorem w_law27_Great {p_disks : List api_Disk} {p_l : List api_Chain} {r : Bool} (h : law27_Great p_disks p_l = some r) : Pure Tryz.prog 21 [(.s (List.map c_api_Disk p_disks)), (.s (List.map c_api_Chain p_l))] (vb r) := by
  refine pure_of_ok (n := 39) (c := (Tryz.f21.body.getD .skip)) Tryz.tok Tryz.func21 (by kernel_rfl) rfl rfl (Nat.le_of_ble_eq_true rfl) ?_
  unfold law27_Great at h
  refine Ok.wk (Wk.tab (L := [(0, (.s (List.map c_api_Disk p_disks))), (1, (.s (List.map c_api_Chain p_l)))]) (H' := []) ⟨Le.refl _, Le.refl _, True.intro⟩ True.intro rfl) ?_
  refine Ok.seq ?_
  refine Ok.region Tryz.tok ?_
  refine Ok.wk (Wk.tab (L := [(0, (.s (List.map c_api_Disk p_disks))), (1, (.s (List.map c_api_Chain p_l)))]) (H' := []) ⟨Le.refl _, Le.refl _, True.intro⟩ True.intro rfl) ?_
  refine Ok.seq ?_
  obtain ⟨v1, hv1, h⟩ := bindS h
  refine Ok.seqw ⟨Cat.tab [(0, (.s (List.map c_api_Disk p_disks))), (1, (.s (List.map c_api_Chain p_l))), (14, (vb v1))], []⟩ ?_ ?_
  · refine Ok.region Tryz.tok ?_
    refine ⟨_, List.length_map _, fun _ => ?_⟩
    obtain ⟨c1, hg1, hv1⟩ := bindS hv1
    refine Br.itf hg1 (fun hb hg1 => ?_) fun hb hg1 => ?_
    · cases hg1
      cases hv1
      exact Wk.tab ⟨Le.refl _, Le.refl _, Le.refl _, True.intro⟩ True.intro rfl
    · refine ⟨_, List.length_map _, fun _ => ?_⟩
      cases hg1
      cases hv1
      exact Wk.tab ⟨Le.refl _, Le.refl _, Le.refl _, True.intro⟩ True.intro rfl
  refine Ok.cond (d := 14) (b := v1) rfl h (fun hb h => ?_) fun hb h => ?_
  · refine Ok.seq ?_
    refine Ok.region Tryz.tok ?_
    refine Ok.wk (Wk.tab (L := [(4, (vb true))]) (H' := []) ⟨Le.refl _, True.intro⟩ True.intro rfl) ?_
    refine Ok.ret ?_
    cases h
    exact Fz.v
  · refine Ok.skip ?_
    refine Ok.seqj (fun v2 => ⟨Cat.tab [(1, (.s (List.map c_api_Chain p_l)))], []⟩) (fun v2 => law27_Great_J1 p_l v2 = some r) ?_ ?_
    · refine Ok.seq ?_
      refine Ok.region Tryz.tok ?_
      refine Ok.wk (Wk.tab (L := [(0, (.s (List.map c_api_Disk p_disks))), (1, (.s (List.map c_api_Chain p_l))), (5, (vi (0)))]) (H' := []) ⟨Le.refl _, Le.refl _, Le.refl _, True.intro⟩ True.intro rfl) ?_
      refine Ok.block ?_
      refine Ok.loop (fun (s1 : Int) => ⟨Cat.tab [(0, (.s (List.map c_api_Disk p_disks))), (1, (.s (List.map c_api_Chain p_l))), (5, (vi s1))], []⟩) (law27_Great_B1 p_disks p_l) (s0 := 0) h (Wk.tab ⟨Le.refl _, Le.refl _, Le.refl _, True.intro⟩ True.intro rfl) ?_
      intro s1 y1 hB1 hy1
      unfold law27_Great_B1 at hB1
      refine Ok.seq ?_
      refine Ok.seq ?_
      refine Ok.region Tryz.tok ?_
      refine ⟨_, List.length_map _, fun _ => ?_⟩
      refine Ok.wk (Wk.tab (L := [(0, (.s (List.map c_api_Disk p_disks))), (1, (.s (List.map c_api_Chain p_l))), (5, (vi s1)), (18, (vb ((decide (s1 < (p_disks.length : Int))))))]) (H' := []) ⟨Le.refl _, Le.refl _, Le.refl _, Le.refl _, True.intro⟩ True.intro rfl) ?_
      refine Ok.cond (d := 18) (b := (decide (s1 < (p_disks.length : Int)))) rfl hB1 (fun hb hB1 => ?_) fun hb hB1 => ?_
      · refine Ok.skip ?_
        refine Ok.seq ?_
        refine Ok.block ?_
        refine Ok.seq ?_
        refine Ok.region Tryz.tok ?_
        obtain ⟨x1, hx1, hB1⟩ := bindS hB1
        obtain ⟨x2, hx2, hB1⟩ := bindS hB1
        refine ⟨_, idx_nat hx1, _, idx_row hx1, ⟨_, rfl, ?_⟩⟩
        refine CallOk.call (w_law25_Great hx2) (LeL.refl _) ?_
        refine Ok.wk (Wk.tab (L := [(0, (.s (List.map c_api_Disk p_disks))), (1, (.s (List.map c_api_Chain p_l))), (5, (vi s1)), (25, (vb x2))]) (H' := []) ⟨Le.refl _, Le.refl _, Le.refl _, Le.refl _, True.intro⟩ True.intro rfl) ?_
        refine Ok.cond (d := 25) (b := x2) rfl hB1 (fun hb hB1 => ?_) fun hb hB1 => ?_
        · refine Ok.seq ?_
          refine Ok.region Tryz.tok ?_
          refine Ok.wk (Wk.tab (L := [(4, (vb true))]) (H' := []) ⟨Le.refl _, True.intro⟩ True.intro rfl) ?_
          refine Ok.ret ?_
          have hB1 := out_ret hB1 hy1
          cases hB1
          exact Fz.v
        · refine Ok.skip ?_
          refine Ok.region Tryz.tok ?_
          obtain ⟨hc1, hB1⟩ := chk_some hB1
          refine (Or.inl ⟨hc1, ?_⟩)
          exact ⟨_, (Option.some.inj hB1).symm, Wk.tab ⟨Le.refl _, Le.refl _, Le.refl _, True.intro⟩ True.intro rfl⟩
      · refine Ok.exit ?_
        have hB1 := out_ret hB1 hy1
        exact ⟨_, hB1, Wk.tab ⟨Le.refl _, True.intro⟩ True.intro rfl⟩
    intro v2 h
    unfold law27_Great_J1 at h
    refine Ok.seqj (fun v3 => ⟨Cat.tab [], []⟩) (fun v3 => law27_Great_J2 v3 = some r) ?_ ?_
    · refine Ok.seq ?_
      refine Ok.region Tryz.tok ?_
      refine Ok.wk (Wk.tab (L := [(1, (.s (List.map c_api_Chain p_l))), (6, (vi (0)))]) (H' := []) ⟨Le.refl _, Le.refl _, True.intro⟩ True.intro rfl) ?_
      refine Ok.block ?_
      refine Ok.loop (fun (s2 : Int) => ⟨Cat.tab [(1, (.s (List.map c_api_Chain p_l))), (6, (vi s2))], []⟩) (law27_Great_B2 p_l) (s0 := 0) h (Wk.tab ⟨Le.refl _, Le.refl _, True.intro⟩ True.intro rfl) ?_
      intro s2 y2 hB2 hy2
      unfold law27_Great_B2 at hB2
      refine Ok.seq ?_
      refine Ok.seq ?_
      refine Ok.region Tryz.tok ?_
      refine ⟨_, List.length_map _, fun _ => ?_⟩
      refine Ok.wk (Wk.tab (L := [(1, (.s (List.map c_api_Chain p_l))), (6, (vi s2)), (29, (vb ((decide (s2 < (p_l.length : Int))))))]) (H' := []) ⟨Le.refl _, Le.refl _, Le.refl _, True.intro⟩ True.intro rfl) ?_
      refine Ok.cond (d := 29) (b := (decide (s2 < (p_l.length : Int)))) rfl hB2 (fun hb hB2 => ?_) fun hb hB2 => ?_
      · refine Ok.skip ?_
        refine Ok.seq ?_
        refine Ok.block ?_
        refine Ok.seq ?_
        refine Ok.region Tryz.tok ?_
        obtain ⟨x3, hx3, hB2⟩ := bindS hB2
        refine ⟨_, idx_nat hx3, _, idx_row hx3, ⟨_, rfl, ⟨_, List.length_map _, fun _ => ?_⟩⟩⟩
        refine Ok.wk (Wk.tab (L := [(1, (.s (List.map c_api_Chain p_l))), (6, (vi s2)), (38, (vb ((decide ((x3.Servers.length : Int) > 12)))))]) (H' := []) ⟨Le.refl _, Le.refl _, Le.refl _, True.intro⟩ True.intro rfl) ?_
        refine Ok.cond (d := 38) (b := (decide ((x3.Servers.length : Int) > 12))) rfl hB2 (fun hb hB2 => ?_) fun hb hB2 => ?_
        · refine Ok.seq ?_
          refine Ok.region Tryz.tok ?_
          refine Ok.wk (Wk.tab (L := [(4, (vb true))]) (H' := []) ⟨Le.refl _, True.intro⟩ True.intro rfl) ?_
          refine Ok.ret ?_
          have hB2 := out_ret hB2 hy2
          cases hB2
          exact Fz.v
        · refine Ok.skip ?_
          refine Ok.region Tryz.tok ?_
          obtain ⟨hc2, hB2⟩ := chk_some hB2
          refine (Or.inl ⟨hc2, ?_⟩)
          exact ⟨_, (Option.some.inj hB2).symm, Wk.tab ⟨Le.refl _, Le.refl _, True.intro⟩ True.intro rfl⟩
      · refine Ok.exit ?_
        have hB2 := out_ret hB2 hy2
        exact ⟨_, hB2, Wk.tab True.intro True.intro rfl⟩
    intro v3 h
    unfold law27_Great_J2 at h
    refine Ok.seq ?_
    refine Ok.region Tryz.tok ?_
    refine Ok.wk (Wk.tab (L := [(4, (vb false))]) (H' := []) ⟨Le.refl _, True.intro⟩ True.intro rfl) ?_
    refine Ok.ret ?_
    cases h
    exact Fz.v

theorem w_law29_Great {p_x : law29_Set} {r : Bool} (h : law29_Great p_x = some r) : Pure Tryz.prog 6 [(.a [(.s (List.map c_api_Named p_x.Named)), (.s (List.map c_api_Room p_x.Rooms)), (.s (List.map c_api_Lease p_x.Leases)), (.s (List.map c_api_Disk p_x.Disks))])] (vb r) := by
  refine pure_of_ok (n := 24) (c := (Tryz.f6.body.getD .skip)) Tryz.tok Tryz.func6 (by kernel_rfl) rfl rfl (Nat.le_of_ble_eq_true rfl) ?_
  unfold law29_Great at h
  refine Ok.wk (Wk.tab (L := [(0, (.a [(.s (List.map c_api_Named p_x.Named)), (.s (List.map c_api_Room p_x.Rooms)), (.s (List.map c_api_Lease p_x.Leases)), (.s (List.map c_api_Disk p_x.Disks))]))]) (H' := []) ⟨Le.refl _, True.intro⟩ True.intro rfl) ?_
  refine Ok.seq ?_
  refine Ok.region Tryz.tok ?_
  refine Ok.wk (Wk.tab (L := [(1, (.b 1 0))]) (H' := [(1, .box [(.s (List.map c_api_Named p_x.Named)), (.s (List.map c_api_Room p_x.Rooms)), (.s (List.map c_api_Lease p_x.Leases)), (.s (List.map c_api_Disk p_x.Disks))])]) ⟨Le.refl _, True.intro⟩ ⟨⟨_, rfl, .refl _⟩, True.intro⟩ rfl) ?_
  obtain ⟨v1, hv1, h⟩ := bindS h
  refine Ok.seqw ⟨Cat.tab [(2, (vb v1))], []⟩ ?_ ?_
  · refine Ok.region Tryz.tok ?_
    refine ⟨_, rfl, ⟨_, List.length_map _, fun _ => ?_⟩⟩
    obtain ⟨c1, hg1, hv1⟩ := bindS hv1
    refine Br.itf hg1 (fun hb hg1 => ?_) fun hb hg1 => ?_
    · cases hg1
      obtain ⟨c2, hg2, hv1⟩ := bindS hv1
      replace hg2 := iteT hg2
      cases hg2
      obtain ⟨c3, hg3, hv1⟩ := bindS hv1
      replace hg3 := iteT hg3
      cases hg3
      cases hv1
      exact Wk.tab ⟨Le.refl _, True.intro⟩ True.intro rfl
    · refine ⟨_, rfl, ⟨_, List.length_map _, fun _ => ?_⟩⟩
      cases hg1
      obtain ⟨c2, hg4, hv1⟩ := bindS hv1
      refine Br.itf hg4 (fun hb hg4 => ?_) fun hb hg4 => ?_
      · cases hg4
        obtain ⟨c3, hg5, hv1⟩ := bindS hv1
        replace hg5 := iteT hg5
        cases hg5
        cases hv1
        exact Wk.tab ⟨Le.refl _, True.intro⟩ True.intro rfl
      · refine ⟨_, rfl, ⟨_, List.length_map _, fun _ => ?_⟩⟩
        cases hg4
        obtain ⟨c3, hg6, hv1⟩ := bindS hv1
        refine Br.itf hg6 (fun hb hg6 => ?_) fun hb hg6 => ?_
        · cases hg6
          cases hv1
          exact Wk.tab ⟨Le.refl _, True.intro⟩ True.intro rfl
        · obtain ⟨x1, hx1, hg6⟩ := bindS hg6
          refine ⟨_, rfl, ?_⟩
          refine CallOk.call (w_law27_Great hx1) (.cons (Le.refl _) (.cons (Le.nil) (.nil))) ?_
          cases hg6
          cases hv1
          exact Wk.tab ⟨Le.refl _, True.intro⟩ True.intro rfl
  refine Ok.ret ?_
  cases h
  exact Fz.v

theorem w_ref29_put {p_l : List Int} {p_x : Int} {r : (List Int)} (h : ref29_put p_l p_x = some r) : Pure Tryz.prog 32 [(.s (List.map Go.Cat.encI p_l)), (vi p_x)] (.s (List.map Go.Cat.encI r)) := by
  refine pure_of_ok (n := 45) (c := (Tryz.f32.body.getD .skip)) Tryz.tok Tryz.func32 (by kernel_rfl) rfl rfl (Nat.le_of_ble_eq_true rfl) ?_
  unfold ref29_put at h
  refine Ok.wk (Wk.tab (L := [(0, (.s (List.map Go.Cat.encI p_l))), (1, (vi p_x))]) (H' := []) ⟨Le.refl _, Le.refl _, True.intro⟩ True.intro rfl) ?_
  refine Ok.seq ?_
  refine Ok.region Tryz.tok ?_
  refine Ok.wk (Wk.tab (L := [(0, (.s (List.map Go.Cat.encI p_l))), (1, (vi p_x))]) (H' := []) ⟨Le.refl _, Le.refl _, True.intro⟩ True.intro rfl) ?_
  refine Ok.seq ?_
  refine Ok.region Tryz.tok ?_
  refine Ok.wk (Wk.tab (L := [(0, (.s (List.map Go.Cat.encI p_l))), (1, (vi p_x)), (5, (vi (0)))]) (H' := []) ⟨Le.refl _, Le.refl _, Le.refl _, True.intro⟩ True.intro rfl) ?_
  obtain ⟨v1, hv1, h⟩ := bindS h
  refine Ok.seqw ⟨Cat.tab [(0, (.s (List.map Go.Cat.encI p_l))), (1, (vi p_x)), (5, (vi v1))], []⟩ ?_ ?_
  · refine Ok.block ?_
    refine Ok.loop (fun (s1 : Int) => ⟨Cat.tab [(0, (.s (List.map Go.Cat.encI p_l))), (1, (vi p_x)), (5, (vi s1))], []⟩) (ref29_put_B1 p_l p_x) (s0 := 0) hv1 (Wk.tab ⟨Le.refl _, Le.refl _, Le.refl _, True.intro⟩ True.intro rfl) ?_
    intro s1 y1 hB1 hy1
    unfold ref29_put_B1 at hB1
    refine Ok.seq ?_
    obtain ⟨v2, hv2, hB1⟩ := bindS hB1
    refine Ok.seqw ⟨Cat.tab [(0, (.s (List.map Go.Cat.encI p_l))), (1, (vi p_x)), (5, (vi s1)), (17, (vb v2))], []⟩ ?_ ?_
    · refine Ok.region Tryz.tok ?_
      refine ⟨_, List.length_map _, fun _ => ?_⟩
      obtain ⟨c1, hg1, hv2⟩ := bindS hv2
      refine Br.ite hg1 (fun hb hg1 => ?_) fun hb hg1 => ?_
      · obtain ⟨x1, hx1, hg1⟩ := bindS hg1
        refine ⟨_, idx_nat hx1, _, idx_row hx1, ⟨_, rfl, ?_⟩⟩
        cases hg1
        cases hv2
        exact Wk.tab ⟨Le.refl _, Le.refl _, Le.refl _, Le.refl _, True.intro⟩ True.intro rfl
      · cases hg1
        cases hv2
        exact Wk.tab ⟨Le.refl _, Le.refl _, Le.refl _, Le.refl _, True.intro⟩ True.intro rfl
    refine Ok.cond (d := 17) (b := v2) rfl hB1 (fun hb hB1 => ?_) fun hb hB1 => ?_
    · refine Ok.skip ?_
      refine Ok.block ?_
      refine Ok.region Tryz.tok ?_
      obtain ⟨hc1, hB1⟩ := chk_some hB1
      refine (Or.inl ⟨hc1, ?_⟩)
      exact ⟨_, (Option.some.inj hB1).symm, Wk.tab ⟨Le.refl _, Le.refl _, Le.refl _, True.intro⟩ True.intro rfl⟩
    · refine Ok.exit ?_
      have hB1 := out_ret hB1 hy1
      cases hB1
      exact Wk.tab ⟨Le.refl _, Le.refl _, Le.refl _, True.intro⟩ True.intro rfl
  refine Ok.seq ?_
  obtain ⟨v3, hv3, h⟩ := bindS h
  refine Ok.seqw ⟨Cat.tab [(0, (.s (List.map Go.Cat.encI p_l))), (1, (vi p_x)), (5, (vi v1)), (31, (vb v3))], []⟩ ?_ ?_
  · refine Ok.region Tryz.tok ?_
    refine ⟨_, List.length_map _, fun _ => ?_⟩
    obtain ⟨c2, hg2, hv3⟩ := bindS hv3
    refine Br.ite hg2 (fun hb hg2 => ?_) fun hb hg2 => ?_
    · obtain ⟨x2, hx2, hg2⟩ := bindS hg2
      refine ⟨_, idx_nat hx2, _, idx_row hx2, ⟨_, rfl, ?_⟩⟩
      cases hg2
      cases hv3
      exact Wk.tab ⟨Le.refl _, Le.refl _, Le.refl _, Le.refl _, True.intro⟩ True.intro rfl
    · cases hg2
      cases hv3
      exact Wk.tab ⟨Le.refl _, Le.refl _, Le.refl _, Le.refl _, True.intro⟩ True.intro rfl
  refine Ok.cond (d := 31) (b := v3) rfl h (fun hb h => ?_) fun hb h => ?_
  · refine Ok.seq ?_
    refine Ok.region Tryz.tok ?_
    refine Ok.wk (Wk.tab (L := [(4, (.s (List.map Go.Cat.encI p_l)))]) (H' := []) ⟨Le.refl _, True.intro⟩ True.intro rfl) ?_
    refine Ok.ret ?_
    cases h
    exact Fz.s
  · refine Ok.skip ?_
    refine Ok.seq ?_
    refine Ok.chain (chain := [(4, [5, 6, 8, 9, 10]), (7, [8, 9, 10]), (11, []), (12, [])]) Tryz.tok Tryz.mixed (by kernel_rfl) ?_
    obtain ⟨hc2, h⟩ := chk_some h
    obtain ⟨hc3, h⟩ := chk_some h
    obtain ⟨hc4, h⟩ := chk_some h
    obtain ⟨hc5, h⟩ := chk_some h
    obtain ⟨hc6, h⟩ := chk_some h
    refine ⟨_, rfl, ⟨_, rfl, ⟨_, rfl, ⟨_, ⟨_, sl_nat hc2.1, Nat.zero_le _, sl_len hc2, rowsK (f := Go.Cat.encI) (K := 1) (fun _ => rfl) p_l, _, sl_take _ _ _, rfl⟩, ⟨_, rfl, ⟨_, rfl, ⟨_, rfl, ⟨_, rfl, ⟨_, ⟨_, sl_nat hc3.1, sl_len hc3, Nat.le_refl _, rowsK (f := Go.Cat.encI) (K := 1) (fun _ => rfl) p_l, _, sl_drop _ _ _, rfl⟩, ⟨rowsLen_map (f := Go.Cat.encI) (n := 1) (fun _ => rfl) ((p_l.take v1.toNat)), app_b1 (f := Go.Cat.encI) (l' := ((p_l.take v1.toNat))) hc4, _, rfl, ⟨⟨⟨_, rfl, rfl⟩, ⟨_, rfl, rfl⟩, ⟨_, rfl, rfl⟩, ⟨_, rfl, rfl⟩, ⟨_, rfl, ⟨_, sl_nat hc3.1, sl_len hc3, Nat.le_refl _, rowsK (f := Go.Cat.encI) (K := 1) (fun _ => rfl) p_l, _, sl_drop _ _ _, rfl⟩⟩, True.intro⟩, ⟨rowsLen_map (f := Go.Cat.encI) (n := 1) (fun _ => rfl) ([p_x]), app_b2 (f := Go.Cat.encI) (l := ((p_l.take v1.toNat))) (l' := ([p_x])) hc5, _, (List.map_append (f := Go.Cat.encI) (l₁ := ((p_l.take v1.toNat))) (l₂ := ([p_x]))).symm, ⟨⟨⟨_, rfl, rfl⟩, ⟨_, rfl, rfl⟩, ⟨_, rfl, ⟨_, sl_nat hc3.1, sl_len hc3, Nat.le_refl _, rowsK (f := Go.Cat.encI) (K := 1) (fun _ => rfl) p_l, _, sl_drop _ _ _, rfl⟩⟩, True.intro⟩, ⟨rowsLen_map (f := Go.Cat.encI) (n := 1) (fun _ => rfl) ((p_l.drop v1.toNat)), app_b2 (f := Go.Cat.encI) (l := (((p_l.take v1.toNat) ++ [p_x]))) (l' := ((p_l.drop v1.toNat))) hc6, _, (List.map_append (f := Go.Cat.encI) (l₁ := (((p_l.take v1.toNat) ++ [p_x]))) (l₂ := ((p_l.drop v1.toNat)))).symm, ⟨True.intro, ⟨True.intro, ?_⟩⟩⟩⟩⟩⟩⟩⟩⟩⟩⟩⟩⟩⟩⟩⟩
    refine Ok.wk (Wk.tab (L := [(4, (.o 37))]) (H' := [(37, .own 3 1 (List.map Go.Cat.encI ((((p_l.take v1.toNat) ++ [p_x]) ++ (p_l.drop v1.toNat)))))]) ⟨Le.refl _, True.intro⟩ ⟨⟨_, rfl, .refl _⟩, True.intro⟩ rfl) ?_
    refine Ok.ret ?_
    cases h
    exact (Fz.o rfl)

theorem w_ref29_Open {p_r : api_Room} {p_leases : List api_Lease} {p_now : Int} {r : Bool} (h : ref29_Open p_r p_leases p_now = some r) : Pure Tryz.prog 28 [(.a [(vi p_r.Id), (vi p_r.Ino), (vi p_r.Client)]), (.s (List.map c_api_Lease p_leases)), (vi p_now)] (vb r) := by
  refine pure_of_ok (n := 42) (c := (Tryz.f28.body.getD .skip)) Tryz.tok Tryz.func28 (by kernel_rfl) rfl rfl (Nat.le_of_ble_eq_true rfl) ?_
  unfold ref29_Open at h
  refine Ok.wk (Wk.tab (L := [(0, (.a [(vi p_r.Id), (vi p_r.Ino), (vi p_r.Client)])), (1, (.s (List.map c_api_Lease p_leases))), (2, (vi p_now))]) (H' := []) ⟨Le.refl _, Le.refl _, Le.refl _, True.intro⟩ True.intro rfl) ?_
  refine Ok.seq ?_
  refine Ok.region Tryz.tok ?_
  refine Ok.wk (Wk.tab (L := [(1, (.s (List.map c_api_Lease p_leases))), (2, (vi p_now)), (3, (.b 3 0))]) (H' := [(3, .box [(vi p_r.Id), (vi p_r.Ino), (vi p_r.Client)])]) ⟨Le.refl _, Le.refl _, Le.refl _, True.intro⟩ ⟨⟨_, rfl, .refl _⟩, True.intro⟩ rfl) ?_
  refine Ok.seqj (fun v1 => ⟨Cat.tab [], []⟩) (fun v1 => ref29_Open_J1 v1 = some r) ?_ ?_
  · refine Ok.seq ?_
    refine Ok.region Tryz.tok ?_
    refine Ok.wk (Wk.tab (L := [(1, (.s (List.map c_api_Lease p_leases))), (2, (vi p_now)), (3, (.b 3 0)), (7, (vi (0)))]) (H' := [(3, .box [(vi p_r.Id), (vi p_r.Ino), (vi p_r.Client)])]) ⟨Le.refl _, Le.refl _, Le.refl _, Le.refl _, True.intro⟩ ⟨⟨_, rfl, .refl _⟩, True.intro⟩ rfl) ?_
    refine Ok.block ?_
    refine Ok.loop (fun (s1 : Int) => ⟨Cat.tab [(1, (.s (List.map c_api_Lease p_leases))), (2, (vi p_now)), (3, (.b 3 0)), (7, (vi s1))], [(3, .box [(vi p_r.Id), (vi p_r.Ino), (vi p_r.Client)])]⟩) (ref29_Open_B1 p_leases p_r p_now) (s0 := 0) h (Wk.tab ⟨Le.refl _, Le.refl _, Le.refl _, Le.refl _, True.intro⟩ ⟨⟨_, rfl, .refl _⟩, True.intro⟩ rfl) ?_
    intro s1 y1 hB1 hy1
    unfold ref29_Open_B1 at hB1
    refine Ok.seq ?_
    refine Ok.seq ?_
    refine Ok.region Tryz.tok ?_
    refine ⟨_, List.length_map _, fun _ => ?_⟩
    refine Ok.wk (Wk.tab (L := [(1, (.s (List.map c_api_Lease p_leases))), (2, (vi p_now)), (3, (.b 3 0)), (7, (vi s1)), (12, (vb ((decide (s1 < (p_leases.length : Int))))))]) (H' := [(3, .box [(vi p_r.Id), (vi p_r.Ino), (vi p_r.Client)])]) ⟨Le.refl _, Le.refl _, Le.refl _, Le.refl _, Le.refl _, True.intro⟩ ⟨⟨_, rfl, .refl _⟩, True.intro⟩ rfl) ?_
    refine Ok.cond (d := 12) (b := (decide (s1 < (p_leases.length : Int)))) rfl hB1 (fun hb hB1 => ?_) fun hb hB1 => ?_
    · refine Ok.skip ?_
      refine Ok.seq ?_
      refine Ok.block ?_
      refine Ok.seq ?_
      refine Ok.region Tryz.tok ?_
      obtain ⟨x1, hx1, hB1⟩ := bindS hB1
      refine ⟨_, idx_nat hx1, _, idx_row hx1, ⟨_, rfl, ⟨_, rfl, ?_⟩⟩⟩
      refine Ok.wk (Wk.tab (L := [(1, (.s (List.map c_api_Lease p_leases))), (2, (vi p_now)), (3, (.b 3 0)), (7, (vi s1)), (8, (.b 8 0))]) (H' := [(3, .box [(vi p_r.Id), (vi p_r.Ino), (vi p_r.Client)]), (8, .box [(vi x1.Client), (vi x1.Ino), (vi x1.Kind), (vi x1.Span.From), (vi x1.Span.To), (vi x1.Until), (vi x1.Epoch)])]) ⟨Le.refl _, Le.refl _, Le.refl _, Le.refl _, Le.refl _, True.intro⟩ ⟨⟨_, rfl, .refl _⟩, ⟨_, rfl, .refl _⟩, True.intro⟩ rfl) ?_
      obtain ⟨v2, hv2, hB1⟩ := bindS hB1
      refine Ok.seqw ⟨Cat.tab [(1, (.s (List.map c_api_Lease p_leases))), (2, (vi p_now)), (3, (.b 3 0)), (7, (vi s1)), (41, (vb v2))], [(3, .box [(vi p_r.Id), (vi p_r.Ino), (vi p_r.Client)])]⟩ ?_ ?_
      · refine Ok.region Tryz.tok ?_
        refine ⟨_, rfl, ⟨_, rfl, ?_⟩⟩
        obtain ⟨c1, hg1, hv2⟩ := bindS hv2
        refine Br.ite hg1 (fun hb hg1 => ?_) fun hb hg1 => ?_
        · refine ⟨_, rfl, ⟨_, rfl, ?_⟩⟩
          cases hg1
          obtain ⟨c2, hg2, hv2⟩ := bindS hv2
          refine Br.ite hg2 (fun hb hg2 => ?_) fun hb hg2 => ?_
          · refine ⟨_, rfl, ?_⟩
            cases hg2
            obtain ⟨c3, hg3, hv2⟩ := bindS hv2
            refine Br.ite hg3 (fun hb hg3 => ?_) fun hb hg3 => ?_
            · refine ⟨_, rfl, ?_⟩
              cases hg3
              cases hv2
              exact Wk.tab ⟨Le.refl _, Le.refl _, Le.refl _, Le.refl _, Le.refl _, True.intro⟩ ⟨⟨_, rfl, .refl _⟩, True.intro⟩ rfl
            · cases hg3
              cases hv2
              exact Wk.tab ⟨Le.refl _, Le.refl _, Le.refl _, Le.refl _, Le.refl _, True.intro⟩ ⟨⟨_, rfl, .refl _⟩, True.intro⟩ rfl
          · cases hg2
            obtain ⟨c3, hg4, hv2⟩ := bindS hv2
            replace hg4 := iteF hg4
            cases hg4
            cases hv2
            exact Wk.tab ⟨Le.refl _, Le.refl _, Le.refl _, Le.refl _, Le.refl _, True.intro⟩ ⟨⟨_, rfl, .refl _⟩, True.intro⟩ rfl
        · cases hg1
          obtain ⟨c2, hg5, hv2⟩ := bindS hv2
          replace hg5 := iteF hg5
          cases hg5
          obtain ⟨c3, hg6, hv2⟩ := bindS hv2
          replace hg6 := iteF hg6
          cases hg6
          cases hv2
          exact Wk.tab ⟨Le.refl _, Le.refl _, Le.refl _, Le.refl _, Le.refl _, True.intro⟩ ⟨⟨_, rfl, .refl _⟩, True.intro⟩ rfl
      refine Ok.cond (d := 41) (b := v2) rfl hB1 (fun hb hB1 => ?_) fun hb hB1 => ?_
      · refine Ok.seq ?_
        refine Ok.region Tryz.tok ?_
        refine Ok.wk (Wk.tab (L := [(6, (vb true))]) (H' := []) ⟨Le.refl _, True.intro⟩ True.intro rfl) ?_
        refine Ok.ret ?_
        have hB1 := out_ret hB1 hy1
        cases hB1
        exact Fz.v
      · refine Ok.skip ?_
        refine Ok.region Tryz.tok ?_
        obtain ⟨hc1, hB1⟩ := chk_some hB1
        refine (Or.inl ⟨hc1, ?_⟩)
        exact ⟨_, (Option.some.inj hB1).symm, Wk.tab ⟨Le.refl _, Le.refl _, Le.refl _, Le.refl _, True.intro⟩ ⟨⟨_, rfl, .refl _⟩, True.intro⟩ rfl⟩
    · refine Ok.exit ?_
      have hB1 := out_ret hB1 hy1
      exact ⟨_, hB1, Wk.tab True.intro True.intro rfl⟩
  intro v1 h
  unfold ref29_Open_J1 at h
  refine Ok.seq ?_
  refine Ok.region Tryz.tok ?_
  refine Ok.wk (Wk.tab (L := [(6, (vb false))]) (H' := []) ⟨Le.refl _, True.intro⟩ True.intro rfl) ?_
  refine Ok.ret ?_
  cases h
  exact Fz.v

theorem w_ref29_Keeps {p_named : List api_Named} {p_rooms : List api_Room} {p_leases : List api_Lease} {p_now : Int} {r : (List Int)} (h : ref29_Keeps p_named p_rooms p_leases p_now = some r) : Pure Tryz.prog 11 [(.s (List.map c_api_Named p_named)), (.s (List.map c_api_Room p_rooms)), (.s (List.map c_api_Lease p_leases)), (vi p_now)] (.s (List.map Go.Cat.encI r)) := by
  refine pure_of_ok (n := 46) (c := (Tryz.f11.body.getD .skip)) Tryz.tok Tryz.func11 (by kernel_rfl) rfl rfl (Nat.le_of_ble_eq_true rfl) ?_
  unfold ref29_Keeps at h
  refine Ok.wk (Wk.tab (L := [(0, (.s (List.map c_api_Named p_named))), (1, (.s (List.map c_api_Room p_rooms))), (2, (.s (List.map c_api_Lease p_leases))), (3, (vi p_now))]) (H' := []) ⟨Le.refl _, Le.refl _, Le.refl _, Le.refl _, True.intro⟩ True.intro rfl) ?_
  refine Ok.seq ?_
  refine Ok.region Tryz.tok ?_
  refine Ok.wk (Wk.tab (L := [(0, (.s (List.map c_api_Named p_named))), (1, (.s (List.map c_api_Room p_rooms))), (2, (.s (List.map c_api_Lease p_leases))), (3, (vi p_now))]) (H' := []) ⟨Le.refl _, Le.refl _, Le.refl _, Le.refl _, True.intro⟩ True.intro rfl) ?_
  refine Ok.seq ?_
  refine Ok.region Tryz.tok ?_
  refine Ok.wk (Wk.tab (L := [(0, (.s (List.map c_api_Named p_named))), (1, (.s (List.map c_api_Room p_rooms))), (2, (.s (List.map c_api_Lease p_leases))), (3, (vi p_now)), (9, (.v (.slice none 0 0)))]) (H' := []) ⟨Le.refl _, Le.refl _, Le.refl _, Le.refl _, Le.refl _, True.intro⟩ True.intro rfl) ?_
  obtain ⟨v1, hv1, h⟩ := bindS h
  refine Ok.seqw ⟨Cat.tab [(1, (.s (List.map c_api_Room p_rooms))), (2, (.s (List.map c_api_Lease p_leases))), (3, (vi p_now)), (9, (.s (List.map Go.Cat.encI v1)))], []⟩ ?_ ?_
  · refine Ok.seq ?_
    refine Ok.region Tryz.tok ?_
    refine Ok.wk (Wk.tab (L := [(0, (.s (List.map c_api_Named p_named))), (1, (.s (List.map c_api_Room p_rooms))), (2, (.s (List.map c_api_Lease p_leases))), (3, (vi p_now)), (9, (.v (.slice none 0 0))), (10, (vi (0)))]) (H' := []) ⟨Le.refl _, Le.refl _, Le.refl _, Le.refl _, Le.refl _, Le.refl _, True.intro⟩ True.intro rfl) ?_
    refine Ok.block ?_
    refine Ok.loop (fun (s1 : (List Int) × Int) => ⟨Cat.tab [(0, (.s (List.map c_api_Named p_named))), (1, (.s (List.map c_api_Room p_rooms))), (2, (.s (List.map c_api_Lease p_leases))), (3, (vi p_now)), (9, (.s (List.map Go.Cat.encI s1.1))), (10, (vi s1.2))], []⟩) (ref29_Keeps_B1 p_named) (s0 := ([], 0)) hv1 (Wk.tab ⟨Le.refl _, Le.refl _, Le.refl _, Le.refl _, Le.nil, Le.refl _, True.intro⟩ True.intro rfl) ?_
    intro s1 y1 hB1 hy1
    unfold ref29_Keeps_B1 at hB1
    refine Ok.seq ?_
    refine Ok.seq ?_
    refine Ok.region Tryz.tok ?_
    refine ⟨_, List.length_map _, fun _ => ?_⟩
    refine Ok.wk (Wk.tab (L := [(0, (.s (List.map c_api_Named p_named))), (1, (.s (List.map c_api_Room p_rooms))), (2, (.s (List.map c_api_Lease p_leases))), (3, (vi p_now)), (9, (.s (List.map Go.Cat.encI s1.1))), (10, (vi s1.2)), (15, (vb ((decide (s1.2 < (p_named.length : Int))))))]) (H' := []) ⟨Le.refl _, Le.refl _, Le.refl _, Le.refl _, Le.refl _, Le.refl _, Le.refl _, True.intro⟩ True.intro rfl) ?_
    refine Ok.cond (d := 15) (b := (decide (s1.2 < (p_named.length : Int)))) rfl hB1 (fun hb hB1 => ?_) fun hb hB1 => ?_
    · refine Ok.skip ?_
      refine Ok.seq ?_
      refine Ok.block ?_
      refine Ok.region Tryz.tok ?_
      obtain ⟨x1, hx1, hB1⟩ := bindS hB1
      obtain ⟨x2, hx2, hB1⟩ := bindS hB1
      refine ⟨_, idx_nat hx1, _, idx_row hx1, ⟨_, rfl, ?_⟩⟩
      refine CallOk.call (w_ref29_put hx2) (LeL.refl _) ?_
      refine Ok.wk (Wk.tab (L := [(0, (.s (List.map c_api_Named p_named))), (1, (.s (List.map c_api_Room p_rooms))), (2, (.s (List.map c_api_Lease p_leases))), (3, (vi p_now)), (9, (.s (List.map Go.Cat.encI x2))), (10, (vi s1.2))]) (H' := []) ⟨Le.refl _, Le.refl _, Le.refl _, Le.refl _, Le.refl _, Le.refl _, True.intro⟩ True.intro rfl) ?_
      refine Ok.region Tryz.tok ?_
      obtain ⟨hc1, hB1⟩ := chk_some hB1
      refine (Or.inl ⟨hc1, ?_⟩)
      exact ⟨_, (Option.some.inj hB1).symm, Wk.tab ⟨Le.refl _, Le.refl _, Le.refl _, Le.refl _, Le.refl _, Le.refl _, True.intro⟩ True.intro rfl⟩
    · refine Ok.exit ?_
      have hB1 := out_ret hB1 hy1
      cases hB1
      exact Wk.tab ⟨Le.refl _, Le.refl _, Le.refl _, Le.refl _, True.intro⟩ True.intro rfl
  obtain ⟨v2, hv2, h⟩ := bindS h
  refine Ok.seqw ⟨Cat.tab [(9, (.s (List.map Go.Cat.encI v2)))], []⟩ ?_ ?_
  · refine Ok.seq ?_
    refine Ok.region Tryz.tok ?_
    refine Ok.wk (Wk.tab (L := [(1, (.s (List.map c_api_Room p_rooms))), (2, (.s (List.map c_api_Lease p_leases))), (3, (vi p_now)), (9, (.s (List.map Go.Cat.encI v1))), (11, (vi (0)))]) (H' := []) ⟨Le.refl _, Le.refl _, Le.refl _, Le.refl _, Le.refl _, True.intro⟩ True.intro rfl) ?_
    refine Ok.block ?_
    refine Ok.loop (fun (s2 : (List Int) × Int) => ⟨Cat.tab [(1, (.s (List.map c_api_Room p_rooms))), (2, (.s (List.map c_api_Lease p_leases))), (3, (vi p_now)), (9, (.s (List.map Go.Cat.encI s2.1))), (11, (vi s2.2))], []⟩) (ref29_Keeps_B2 p_rooms p_leases p_now) (s0 := (v1, 0)) hv2 (Wk.tab ⟨Le.refl _, Le.refl _, Le.refl _, Le.refl _, Le.refl _, True.intro⟩ True.intro rfl) ?_
    intro s2 y2 hB2 hy2
    unfold ref29_Keeps_B2 at hB2
    refine Ok.seq ?_
    refine Ok.seq ?_
    refine Ok.region Tryz.tok ?_
    refine ⟨_, List.length_map _, fun _ => ?_⟩
    refine Ok.wk (Wk.tab (L := [(1, (.s (List.map c_api_Room p_rooms))), (2, (.s (List.map c_api_Lease p_leases))), (3, (vi p_now)), (9, (.s (List.map Go.Cat.encI s2.1))), (11, (vi s2.2)), (28, (vb ((decide (s2.2 < (p_rooms.length : Int))))))]) (H' := []) ⟨Le.refl _, Le.refl _, Le.refl _, Le.refl _, Le.refl _, Le.refl _, True.intro⟩ True.intro rfl) ?_
    refine Ok.cond (d := 28) (b := (decide (s2.2 < (p_rooms.length : Int)))) rfl hB2 (fun hb hB2 => ?_) fun hb hB2 => ?_
    · refine Ok.skip ?_
      obtain ⟨v3, hv3, hB2⟩ := bindS hB2
      refine Ok.seqw ⟨Cat.tab [(1, (.s (List.map c_api_Room p_rooms))), (2, (.s (List.map c_api_Lease p_leases))), (3, (vi p_now)), (9, (.s (List.map Go.Cat.encI v3))), (11, (vi s2.2))], []⟩ ?_ ?_
      · refine Ok.block ?_
        refine Ok.seq ?_
        refine Ok.region Tryz.tok ?_
        obtain ⟨x3, hx3, hv3⟩ := bindS hv3
        obtain ⟨x4, hx4, hv3⟩ := bindS hv3
        refine ⟨_, idx_nat hx3, _, idx_row hx3, ⟨_, rfl, ?_⟩⟩
        refine CallOk.call (w_ref29_Open hx4) (LeL.refl _) ?_
        refine Ok.wk (Wk.tab (L := [(1, (.s (List.map c_api_Room p_rooms))), (2, (.s (List.map c_api_Lease p_leases))), (3, (vi p_now)), (9, (.s (List.map Go.Cat.encI s2.1))), (11, (vi s2.2)), (37, (vb x4))]) (H' := []) ⟨Le.refl _, Le.refl _, Le.refl _, Le.refl _, Le.refl _, Le.refl _, True.intro⟩ True.intro rfl) ?_
        refine Ok.cond (d := 37) (b := x4) rfl hv3 (fun hb hv3 => ?_) fun hb hv3 => ?_
        · refine Ok.region Tryz.tok ?_
          obtain ⟨x5, hx5, hv3⟩ := bindS hv3
          obtain ⟨x6, hx6, hv3⟩ := bindS hv3
          refine ⟨_, idx_nat hx5, _, idx_row hx5, ⟨_, rfl, ?_⟩⟩
          refine CallOk.call (w_ref29_put hx6) (LeL.refl _) ?_
          cases hv3
          exact Wk.tab ⟨Le.refl _, Le.refl _, Le.refl _, Le.refl _, Le.refl _, True.intro⟩ True.intro rfl
        · refine Ok.skip ?_
          cases hv3
          exact Wk.tab ⟨Le.refl _, Le.refl _, Le.refl _, Le.refl _, Le.refl _, True.intro⟩ True.intro rfl
      refine Ok.region Tryz.tok ?_
      obtain ⟨hc2, hB2⟩ := chk_some hB2
      refine (Or.inl ⟨hc2, ?_⟩)
      exact ⟨_, (Option.some.inj hB2).symm, Wk.tab ⟨Le.refl _, Le.refl _, Le.refl _, Le.refl _, Le.refl _, True.intro⟩ True.intro rfl⟩
    · refine Ok.exit ?_
      have hB2 := out_ret hB2 hy2
      cases hB2
      exact Wk.tab ⟨Le.refl _, True.intro⟩ True.intro rfl
  refine Ok.seq ?_
  refine Ok.region Tryz.tok ?_
  refine Ok.wk (Wk.tab (L := [(8, (.s (List.map Go.Cat.encI v2)))]) (H' := []) ⟨Le.refl _, True.intro⟩ True.intro rfl) ?_
  refine Ok.ret ?_
  cases h
  exact Fz.s

theorem w_ref04_Read {p_d : api_Disk} {p_at : Int} {r : (List UInt8) × Int} (h : ref04_Read p_d p_at = some r) : Pure Tryz.prog 57 [(.a [(.s (List.map c_api_Page p_d.Synced)), (.s (List.map c_api_Page p_d.Loose)), (vb p_d.Down)]), (vi p_at)] (.t [(.s (List.map cU8 r.1)), (vi r.2)]) := by
  refine pure_of_ok (n := 59) (c := (Tryz.f57.body.getD .skip)) Tryz.tok Tryz.func57 (by kernel_rfl) rfl rfl (Nat.le_of_ble_eq_true rfl) ?_
  unfold ref04_Read at h
  refine Ok.wk (Wk.tab (L := [(0, (.a [(.s (List.map c_api_Page p_d.Synced)), (.s (List.map c_api_Page p_d.Loose)), (vb p_d.Down)])), (1, (vi p_at))]) (H' := []) ⟨Le.refl _, Le.refl _, True.intro⟩ True.intro rfl) ?_
  refine Ok.seq ?_
  refine Ok.region Tryz.tok ?_
  refine Ok.wk (Wk.tab (L := [(1, (vi p_at)), (2, (.b 2 0))]) (H' := [(2, .box [(.s (List.map c_api_Page p_d.Synced)), (.s (List.map c_api_Page p_d.Loose)), (vb p_d.Down)])]) ⟨Le.refl _, Le.refl _, True.intro⟩ ⟨⟨_, rfl, .refl _⟩, True.intro⟩ rfl) ?_
  refine Ok.seq ?_
  refine Ok.seq ?_
  refine Ok.region Tryz.tok ?_
  refine ⟨_, rfl, ?_⟩
  refine Ok.wk (Wk.tab (L := [(1, (vi p_at)), (2, (.b 2 0)), (9, (vb p_d.Down))]) (H' := [(2, .box [(.s (List.map c_api_Page p_d.Synced)), (.s (List.map c_api_Page p_d.Loose)), (vb p_d.Down)])]) ⟨Le.refl _, Le.refl _, Le.refl _, True.intro⟩ ⟨⟨_, rfl, .refl _⟩, True.intro⟩ rfl) ?_
  refine Ok.cond (d := 9) (b := p_d.Down) rfl h (fun hb h => ?_) fun hb h => ?_
  · refine Ok.seq ?_
    refine Ok.region Tryz.tok ?_
    refine Ok.wk (Wk.tab (L := [(4, (.v (.slice none 0 0))), (5, (vi (40)))]) (H' := []) ⟨Le.refl _, Le.refl _, True.intro⟩ True.intro rfl) ?_
    refine Ok.ret ?_
    cases h
    exact (Fz.t (.cons Fz.nil (.cons Fz.v .nil)))
  · refine Ok.skip ?_
    refine Ok.seq ?_
    obtain ⟨v1, hv1, h⟩ := bindS h
    refine Ok.seqw ⟨Cat.tab [(1, (vi p_at)), (2, (.b 2 0)), (15, (vb v1))], [(2, .box [(.s (List.map c_api_Page p_d.Synced)), (.s (List.map c_api_Page p_d.Loose)), (vb p_d.Down)])]⟩ ?_ ?_
    · refine Ok.region Tryz.tok ?_
      obtain ⟨c1, hg1, hv1⟩ := bindS hv1
      refine Br.itf hg1 (fun hb hg1 => ?_) fun hb hg1 => ?_
      · cases hg1
        cases hv1
        exact Wk.tab ⟨Le.refl _, Le.refl _, Le.refl _, True.intro⟩ ⟨⟨_, rfl, .refl _⟩, True.intro⟩ rfl
      · cases hg1
        cases hv1
        exact Wk.tab ⟨Le.refl _, Le.refl _, Le.refl _, True.intro⟩ ⟨⟨_, rfl, .refl _⟩, True.intro⟩ rfl
    refine Ok.cond (d := 15) (b := v1) rfl h (fun hb h => ?_) fun hb h => ?_
    · refine Ok.seq ?_
      refine Ok.region Tryz.tok ?_
      refine Ok.wk (Wk.tab (L := [(4, (.v (.slice none 0 0))), (5, (vi (1)))]) (H' := []) ⟨Le.refl _, Le.refl _, True.intro⟩ True.intro rfl) ?_
      refine Ok.ret ?_
      cases h
      exact (Fz.t (.cons Fz.nil (.cons Fz.v .nil)))
    · refine Ok.skip ?_
      refine Ok.seqj (fun v2 => ⟨Cat.tab [(1, (vi p_at)), (2, (.b 2 0))], [(2, .box [(.s (List.map c_api_Page p_d.Synced)), (.s (List.map c_api_Page p_d.Loose)), (vb p_d.Down)])]⟩) (fun v2 => ref04_Read_J1 p_d p_at v2 = some r) ?_ ?_
      · refine Ok.seq ?_
        refine Ok.region Tryz.tok ?_
        obtain ⟨hc1, h⟩ := chk_some h
        refine ⟨_, rfl, ⟨_, List.length_map _, fun _ => (Or.inl ⟨hc1, ?_⟩)⟩⟩
        refine Ok.wk (Wk.tab (L := [(1, (vi p_at)), (2, (.b 2 0)), (6, (vi (((p_d.Loose.length : Int) - 1))))]) (H' := [(2, .box [(.s (List.map c_api_Page p_d.Synced)), (.s (List.map c_api_Page p_d.Loose)), (vb p_d.Down)])]) ⟨Le.refl _, Le.refl _, Le.refl _, True.intro⟩ ⟨⟨_, rfl, .refl _⟩, True.intro⟩ rfl) ?_
        refine Ok.block ?_
        refine Ok.loop (fun (s1 : Int) => ⟨Cat.tab [(1, (vi p_at)), (2, (.b 2 0)), (6, (vi s1))], [(2, .box [(.s (List.map c_api_Page p_d.Synced)), (.s (List.map c_api_Page p_d.Loose)), (vb p_d.Down)])]⟩) (ref04_Read_B1 p_d p_at) (s0 := ((p_d.Loose.length : Int) - 1)) h (Wk.tab ⟨Le.refl _, Le.refl _, Le.refl _, True.intro⟩ ⟨⟨_, rfl, .refl _⟩, True.intro⟩ rfl) ?_
        intro s1 y1 hB1 hy1
        unfold ref04_Read_B1 at hB1
        refine Ok.seq ?_
        refine Ok.seq ?_
        refine Ok.region Tryz.tok ?_
        refine Ok.wk (Wk.tab (L := [(1, (vi p_at)), (2, (.b 2 0)), (6, (vi s1)), (21, (vb ((decide (s1 ≥ 0)))))]) (H' := [(2, .box [(.s (List.map c_api_Page p_d.Synced)), (.s (List.map c_api_Page p_d.Loose)), (vb p_d.Down)])]) ⟨Le.refl _, Le.refl _, Le.refl _, Le.refl _, True.intro⟩ ⟨⟨_, rfl, .refl _⟩, True.intro⟩ rfl) ?_
        refine Ok.cond (d := 21) (b := (decide (s1 ≥ 0))) rfl hB1 (fun hb hB1 => ?_) fun hb hB1 => ?_
        · refine Ok.skip ?_
          refine Ok.seq ?_
          refine Ok.block ?_
          refine Ok.seq ?_
          refine Ok.region Tryz.tok ?_
          obtain ⟨x1, hx1, hB1⟩ := bindS hB1
          refine ⟨_, rfl, ⟨_, idx_nat hx1, _, idx_row hx1, ⟨_, rfl, ?_⟩⟩⟩
          refine Ok.wk (Wk.tab (L := [(1, (vi p_at)), (2, (.b 2 0)), (6, (vi s1)), (31, (vb ((x1.At == p_at))))]) (H' := [(2, .box [(.s (List.map c_api_Page p_d.Synced)), (.s (List.map c_api_Page p_d.Loose)), (vb p_d.Down)])]) ⟨Le.refl _, Le.refl _, Le.refl _, Le.refl _, True.intro⟩ ⟨⟨_, rfl, .refl _⟩, True.intro⟩ rfl) ?_
          refine Ok.cond (d := 31) (b := (x1.At == p_at)) rfl hB1 (fun hb hB1 => ?_) fun hb hB1 => ?_
          · refine Ok.seq ?_
            refine Ok.region Tryz.tok ?_
            obtain ⟨x2, hx2, hB1⟩ := bindS hB1
            refine ⟨_, rfl, ⟨_, idx_nat hx2, _, idx_row hx2, ⟨_, rfl, ?_⟩⟩⟩
            refine Ok.wk (Wk.tab (L := [(4, (.s (List.map cU8 x2.Data))), (5, (vi (0)))]) (H' := []) ⟨Le.refl _, Le.refl _, True.intro⟩ True.intro rfl) ?_
            refine Ok.ret ?_
            have hB1 := out_ret hB1 hy1
            cases hB1
            exact (Fz.t (.cons Fz.s (.cons Fz.v .nil)))
          · refine Ok.skip ?_
            refine Ok.region Tryz.tok ?_
            obtain ⟨hc2, hB1⟩ := chk_some hB1
            refine (Or.inl ⟨hc2, ?_⟩)
            exact ⟨_, (Option.some.inj hB1).symm, Wk.tab ⟨Le.refl _, Le.refl _, Le.refl _, True.intro⟩ ⟨⟨_, rfl, .refl _⟩, True.intro⟩ rfl⟩
        · refine Ok.exit ?_
          have hB1 := out_ret hB1 hy1
          exact ⟨_, hB1, Wk.tab ⟨Le.refl _, Le.refl _, True.intro⟩ ⟨⟨_, rfl, .refl _⟩, True.intro⟩ rfl⟩
      intro v2 h
      unfold ref04_Read_J1 at h
      refine Ok.seqj (fun v3 => ⟨Cat.tab [], []⟩) (fun v3 => ref04_Read_J2 v3 = some r) ?_ ?_
      · refine Ok.seq ?_
        refine Ok.region Tryz.tok ?_
        refine Ok.wk (Wk.tab (L := [(1, (vi p_at)), (2, (.b 2 0)), (7, (vi (0)))]) (H' := [(2, .box [(.s (List.map c_api_Page p_d.Synced)), (.s (List.map c_api_Page p_d.Loose)), (vb p_d.Down)])]) ⟨Le.refl _, Le.refl _, Le.refl _, True.intro⟩ ⟨⟨_, rfl, .refl _⟩, True.intro⟩ rfl) ?_
        refine Ok.block ?_
        refine Ok.loop (fun (s2 : Int) => ⟨Cat.tab [(1, (vi p_at)), (2, (.b 2 0)), (7, (vi s2))], [(2, .box [(.s (List.map c_api_Page p_d.Synced)), (.s (List.map c_api_Page p_d.Loose)), (vb p_d.Down)])]⟩) (ref04_Read_B2 p_d p_at) (s0 := 0) h (Wk.tab ⟨Le.refl _, Le.refl _, Le.refl _, True.intro⟩ ⟨⟨_, rfl, .refl _⟩, True.intro⟩ rfl) ?_
        intro s2 y2 hB2 hy2
        unfold ref04_Read_B2 at hB2
        refine Ok.seq ?_
        refine Ok.seq ?_
        refine Ok.region Tryz.tok ?_
        refine ⟨_, rfl, ⟨_, List.length_map _, fun _ => ?_⟩⟩
        refine Ok.wk (Wk.tab (L := [(1, (vi p_at)), (2, (.b 2 0)), (7, (vi s2)), (42, (vb ((decide (s2 < (p_d.Synced.length : Int))))))]) (H' := [(2, .box [(.s (List.map c_api_Page p_d.Synced)), (.s (List.map c_api_Page p_d.Loose)), (vb p_d.Down)])]) ⟨Le.refl _, Le.refl _, Le.refl _, Le.refl _, True.intro⟩ ⟨⟨_, rfl, .refl _⟩, True.intro⟩ rfl) ?_
        refine Ok.cond (d := 42) (b := (decide (s2 < (p_d.Synced.length : Int)))) rfl hB2 (fun hb hB2 => ?_) fun hb hB2 => ?_
        · refine Ok.skip ?_
          refine Ok.seq ?_
          refine Ok.block ?_
          refine Ok.seq ?_
          refine Ok.region Tryz.tok ?_
          obtain ⟨x3, hx3, hB2⟩ := bindS hB2
          refine ⟨_, rfl, ⟨_, idx_nat hx3, _, idx_row hx3, ⟨_, rfl, ?_⟩⟩⟩
          refine Ok.wk (Wk.tab (L := [(1, (vi p_at)), (2, (.b 2 0)), (7, (vi s2)), (52, (vb ((x3.At == p_at))))]) (H' := [(2, .box [(.s (List.map c_api_Page p_d.Synced)), (.s (List.map c_api_Page p_d.Loose)), (vb p_d.Down)])]) ⟨Le.refl _, Le.refl _, Le.refl _, Le.refl _, True.intro⟩ ⟨⟨_, rfl, .refl _⟩, True.intro⟩ rfl) ?_
          refine Ok.cond (d := 52) (b := (x3.At == p_at)) rfl hB2 (fun hb hB2 => ?_) fun hb hB2 => ?_
          · refine Ok.seq ?_
            refine Ok.region Tryz.tok ?_
            obtain ⟨x4, hx4, hB2⟩ := bindS hB2
            refine ⟨_, rfl, ⟨_, idx_nat hx4, _, idx_row hx4, ⟨_, rfl, ?_⟩⟩⟩
            refine Ok.wk (Wk.tab (L := [(4, (.s (List.map cU8 x4.Data))), (5, (vi (0)))]) (H' := []) ⟨Le.refl _, Le.refl _, True.intro⟩ True.intro rfl) ?_
            refine Ok.ret ?_
            have hB2 := out_ret hB2 hy2
            cases hB2
            exact (Fz.t (.cons Fz.s (.cons Fz.v .nil)))
          · refine Ok.skip ?_
            refine Ok.region Tryz.tok ?_
            obtain ⟨hc3, hB2⟩ := chk_some hB2
            refine (Or.inl ⟨hc3, ?_⟩)
            exact ⟨_, (Option.some.inj hB2).symm, Wk.tab ⟨Le.refl _, Le.refl _, Le.refl _, True.intro⟩ ⟨⟨_, rfl, .refl _⟩, True.intro⟩ rfl⟩
        · refine Ok.exit ?_
          have hB2 := out_ret hB2 hy2
          exact ⟨_, hB2, Wk.tab True.intro True.intro rfl⟩
      intro v3 h
      unfold ref04_Read_J2 at h
      refine Ok.seq ?_
      refine Ok.region Tryz.tok ?_
      refine Ok.wk (Wk.tab (L := [(4, (.v (.slice none 0 0))), (5, (vi (41)))]) (H' := []) ⟨Le.refl _, Le.refl _, True.intro⟩ True.intro rfl) ?_
      refine Ok.ret ?_
      cases h
      exact (Fz.t (.cons Fz.nil (.cons Fz.v .nil)))

theorem wo_ref25_Has {p_d : api_Disk} {r : (List Int)} (h : ref25_Has p_d = some r) : POwn Tryz.prog 33 [(.a [(.s (List.map c_api_Page p_d.Synced)), (.s (List.map c_api_Page p_d.Loose)), (vb p_d.Down)])] 3 1 (List.map Go.Cat.encI r) := by
  refine pown_of_ok (n := 29) (c := (Tryz.f33.body.getD .skip)) Tryz.tok Tryz.func33 (by kernel_rfl) rfl rfl (Nat.le_of_ble_eq_true rfl) ?_
  unfold ref25_Has at h
  refine Ok.wk (Wk.tab (L := [(0, (.a [(.s (List.map c_api_Page p_d.Synced)), (.s (List.map c_api_Page p_d.Loose)), (vb p_d.Down)]))]) (H' := []) ⟨Le.refl _, True.intro⟩ True.intro rfl) ?_
  refine Ok.seq ?_
  refine Ok.region Tryz.tok ?_
  refine Ok.wk (Wk.tab (L := [(1, (.b 1 0))]) (H' := [(1, .box [(.s (List.map c_api_Page p_d.Synced)), (.s (List.map c_api_Page p_d.Loose)), (vb p_d.Down)])]) ⟨Le.refl _, True.intro⟩ ⟨⟨_, rfl, .refl _⟩, True.intro⟩ rfl) ?_
  refine Ok.seq ?_
  refine Ok.region Tryz.tok ?_
  refine Ok.wk (Wk.tab (L := [(1, (.b 1 0)), (3, (.v (.slice none 0 0)))]) (H' := [(1, .box [(.s (List.map c_api_Page p_d.Synced)), (.s (List.map c_api_Page p_d.Loose)), (vb p_d.Down)])]) ⟨Le.refl _, Le.refl _, True.intro⟩ ⟨⟨_, rfl, .refl _⟩, True.intro⟩ rfl) ?_
  obtain ⟨v1, hv1, h⟩ := bindS h
  refine Ok.seqw ⟨Cat.tab [(3, (.o 27))], [(27, .own 3 1 (List.map Go.Cat.encI v1))]⟩ ?_ ?_
  · refine Ok.seq ?_
    refine Ok.region Tryz.tok ?_
    refine Ok.wk (Wk.tab (L := [(1, (.b 1 0)), (3, (.v (.slice none 0 0))), (4, (vi (0)))]) (H' := [(1, .box [(.s (List.map c_api_Page p_d.Synced)), (.s (List.map c_api_Page p_d.Loose)), (vb p_d.Down)])]) ⟨Le.refl _, Le.refl _, Le.refl _, True.intro⟩ ⟨⟨_, rfl, .refl _⟩, True.intro⟩ rfl) ?_
    refine Ok.block ?_
    refine Ok.loop (fun (s1 : Int × (List Int)) => ⟨Cat.tab [(1, (.b 1 0)), (3, (.o 27)), (4, (vi s1.1))], [(1, .box [(.s (List.map c_api_Page p_d.Synced)), (.s (List.map c_api_Page p_d.Loose)), (vb p_d.Down)]), (27, .own 3 1 (List.map Go.Cat.encI s1.2))]⟩) (ref25_Has_B1 p_d) (s0 := (0, [])) hv1 ((Wk.own0 (t := 3) (id := 27) (E := 3) (K := 1) rfl rfl).trans (Wk.tab ⟨Le.refl _, Le.refl _, Le.refl _, True.intro⟩ ⟨⟨_, rfl, .refl _⟩, ⟨_, rfl, .refl _⟩, True.intro⟩ rfl)) ?_
    intro s1 y1 hB1 hy1
    unfold ref25_Has_B1 at hB1
    refine Ok.seq ?_
    refine Ok.seq ?_
    refine Ok.region Tryz.tok ?_
    refine Ok.wk (Wk.tab (L := [(1, (.b 1 0)), (3, (.o 27)), (4, (vi s1.1)), (8, (vb ((decide (s1.1 < 200)))))]) (H' := [(1, .box [(.s (List.map c_api_Page p_d.Synced)), (.s (List.map c_api_Page p_d.Loose)), (vb p_d.Down)]), (27, .own 3 1 (List.map Go.Cat.encI s1.2))]) ⟨Le.refl _, Le.refl _, Le.refl _, Le.refl _, True.intro⟩ ⟨⟨_, rfl, .refl _⟩, ⟨_, rfl, .refl _⟩, True.intro⟩ rfl) ?_
    refine Ok.cond (d := 8) (b := (decide (s1.1 < 200))) rfl hB1 (fun hb hB1 => ?_) fun hb hB1 => ?_
    · refine Ok.skip ?_
      obtain ⟨v2, hv2, hB1⟩ := bindS hB1
      refine Ok.seqw ⟨Cat.tab [(1, (.b 1 0)), (3, (.o 27)), (4, (vi s1.1))], [(1, .box [(.s (List.map c_api_Page p_d.Synced)), (.s (List.map c_api_Page p_d.Loose)), (vb p_d.Down)]), (27, .own 3 1 (List.map Go.Cat.encI v2))]⟩ ?_ ?_
      · refine Ok.block ?_
        refine Ok.seq ?_
        refine Ok.region Tryz.tok ?_
        obtain ⟨x1, hx1, hv2⟩ := bindS hv2
        refine ⟨_, rfl, ?_⟩
        refine CallOk.call (w_ref04_Read hx1) (LeL.refl _) ?_
        refine Ok.wk (Wk.tab (L := [(1, (.b 1 0)), (3, (.o 27)), (4, (vi s1.1)), (5, (.s (List.map cU8 x1.1))), (6, (vi x1.2))]) (H' := [(1, .box [(.s (List.map c_api_Page p_d.Synced)), (.s (List.map c_api_Page p_d.Loose)), (vb p_d.Down)]), (27, .own 3 1 (List.map Go.Cat.encI s1.2))]) ⟨Le.refl _, Le.refl _, Le.refl _, Le.refl _, Le.refl _, True.intro⟩ ⟨⟨_, rfl, .refl _⟩, ⟨_, rfl, .refl _⟩, True.intro⟩ rfl) ?_
        obtain ⟨v3, hv3, hv2⟩ := bindS hv2
        refine Ok.seqw ⟨Cat.tab [(1, (.b 1 0)), (3, (.o 27)), (4, (vi s1.1)), (23, (vb v3))], [(1, .box [(.s (List.map c_api_Page p_d.Synced)), (.s (List.map c_api_Page p_d.Loose)), (vb p_d.Down)]), (27, .own 3 1 (List.map Go.Cat.encI s1.2))]⟩ ?_ ?_
        · refine Ok.region Tryz.tok ?_
          obtain ⟨c1, hg1, hv3⟩ := bindS hv3
          refine Br.ite hg1 (fun hb hg1 => ?_) fun hb hg1 => ?_
          · refine ⟨_, List.length_map _, fun _ => ?_⟩
            cases hg1
            cases hv3
            exact Wk.tab ⟨Le.refl _, Le.refl _, Le.refl _, Le.refl _, True.intro⟩ ⟨⟨_, rfl, .refl _⟩, ⟨_, rfl, .refl _⟩, True.intro⟩ rfl
          · cases hg1
            cases hv3
            exact Wk.tab ⟨Le.refl _, Le.refl _, Le.refl _, Le.refl _, True.intro⟩ ⟨⟨_, rfl, .refl _⟩, ⟨_, rfl, .refl _⟩, True.intro⟩ rfl
        refine Ok.cond (d := 23) (b := v3) rfl hv2 (fun hb hv2 => ?_) fun hb hv2 => ?_
        · refine Ok.region Tryz.tok ?_
          obtain ⟨hc1, hv2⟩ := chk_some hv2
          refine Or.inl ⟨rowsLen_map (f := Go.Cat.encI) (n := 1) (fun _ => rfl) ([s1.1]), app_b2 (f := Go.Cat.encI) (l := s1.2) (l' := ([s1.1])) hc1, _, (List.map_append (f := Go.Cat.encI) (l₁ := s1.2) (l₂ := ([s1.1]))).symm, ?_⟩
          cases hv2
          exact Wk.tab ⟨Le.refl _, Le.refl _, Le.refl _, True.intro⟩ ⟨⟨_, rfl, .refl _⟩, ⟨_, rfl, .refl _⟩, True.intro⟩ rfl
        · refine Ok.skip ?_
          cases hv2
          exact Wk.tab ⟨Le.refl _, Le.refl _, Le.refl _, True.intro⟩ ⟨⟨_, rfl, .refl _⟩, ⟨_, rfl, .refl _⟩, True.intro⟩ rfl
      refine Ok.region Tryz.tok ?_
      obtain ⟨hc2, hB1⟩ := chk_some hB1
      refine (Or.inl ⟨hc2, ?_⟩)
      exact ⟨_, (Option.some.inj hB1).symm, Wk.tab ⟨Le.refl _, Le.refl _, Le.refl _, True.intro⟩ ⟨⟨_, rfl, .refl _⟩, ⟨_, rfl, .refl _⟩, True.intro⟩ rfl⟩
    · refine Ok.exit ?_
      have hB1 := out_ret hB1 hy1
      cases hB1
      exact Wk.tab ⟨Le.refl _, True.intro⟩ ⟨⟨_, rfl, .refl _⟩, True.intro⟩ rfl
  refine Ok.seq ?_
  refine Ok.region Tryz.tok ?_
  refine Ok.wk (Wk.tab (L := [(2, (.o 27))]) (H' := [(27, .own 3 1 (List.map Go.Cat.encI v1))]) ⟨Le.refl _, True.intro⟩ ⟨⟨_, rfl, .refl _⟩, True.intro⟩ rfl) ?_
  refine Ok.ret ?_
  cases h
  exact (.inr ⟨_, rfl, rfl⟩)
theorem w_ref25_Has {p_d : api_Disk} {r : (List Int)} (h : ref25_Has p_d = some r) : Pure Tryz.prog 33 [(.a [(.s (List.map c_api_Page p_d.Synced)), (.s (List.map c_api_Page p_d.Loose)), (vb p_d.Down)])] (.s (List.map Go.Cat.encI r)) := (wo_ref25_Has h).pure

theorem w_ref29_Has {p_l : List Int} {p_x : Int} {r : Bool} (h : ref29_Has p_l p_x = some r) : Pure Tryz.prog 34 [(.s (List.map Go.Cat.encI p_l)), (vi p_x)] (vb r) := by
  refine pure_of_ok (n := 18) (c := (Tryz.f34.body.getD .skip)) Tryz.tok Tryz.func34 (by kernel_rfl) rfl rfl (Nat.le_of_ble_eq_true rfl) ?_
  unfold ref29_Has at h
  refine Ok.wk (Wk.tab (L := [(0, (.s (List.map Go.Cat.encI p_l))), (1, (vi p_x))]) (H' := []) ⟨Le.refl _, Le.refl _, True.intro⟩ True.intro rfl) ?_
  refine Ok.seq ?_
  refine Ok.region Tryz.tok ?_
  refine Ok.wk (Wk.tab (L := [(0, (.s (List.map Go.Cat.encI p_l))), (1, (vi p_x))]) (H' := []) ⟨Le.refl _, Le.refl _, True.intro⟩ True.intro rfl) ?_
  refine Ok.seqj (fun v1 => ⟨Cat.tab [], []⟩) (fun v1 => ref29_Has_J1 v1 = some r) ?_ ?_
  · refine Ok.seq ?_
    refine Ok.region Tryz.tok ?_
    refine Ok.wk (Wk.tab (L := [(0, (.s (List.map Go.Cat.encI p_l))), (1, (vi p_x)), (5, (vi (0)))]) (H' := []) ⟨Le.refl _, Le.refl _, Le.refl _, True.intro⟩ True.intro rfl) ?_
    refine Ok.block ?_
    refine Ok.loop (fun (s1 : Int) => ⟨Cat.tab [(0, (.s (List.map Go.Cat.encI p_l))), (1, (vi p_x)), (5, (vi s1))], []⟩) (ref29_Has_B1 p_l p_x) (s0 := 0) h (Wk.tab ⟨Le.refl _, Le.refl _, Le.refl _, True.intro⟩ True.intro rfl) ?_
    intro s1 y1 hB1 hy1
    unfold ref29_Has_B1 at hB1
    refine Ok.seq ?_
    refine Ok.seq ?_
    refine Ok.region Tryz.tok ?_
    refine ⟨_, List.length_map _, fun _ => ?_⟩
    refine Ok.wk (Wk.tab (L := [(0, (.s (List.map Go.Cat.encI p_l))), (1, (vi p_x)), (5, (vi s1)), (9, (vb ((decide (s1 < (p_l.length : Int))))))]) (H' := []) ⟨Le.refl _, Le.refl _, Le.refl _, Le.refl _, True.intro⟩ True.intro rfl) ?_
    refine Ok.cond (d := 9) (b := (decide (s1 < (p_l.length : Int)))) rfl hB1 (fun hb hB1 => ?_) fun hb hB1 => ?_
    · refine Ok.skip ?_
      refine Ok.seq ?_
      refine Ok.block ?_
      refine Ok.seq ?_
      refine Ok.region Tryz.tok ?_
      obtain ⟨x1, hx1, hB1⟩ := bindS hB1
      refine ⟨_, idx_nat hx1, _, idx_row hx1, ⟨_, rfl, ?_⟩⟩
      refine Ok.wk (Wk.tab (L := [(0, (.s (List.map Go.Cat.encI p_l))), (1, (vi p_x)), (5, (vi s1)), (17, (vb ((x1 == p_x))))]) (H' := []) ⟨Le.refl _, Le.refl _, Le.refl _, Le.refl _, True.intro⟩ True.intro rfl) ?_
      refine Ok.cond (d := 17) (b := (x1 == p_x)) rfl hB1 (fun hb hB1 => ?_) fun hb hB1 => ?_
      · refine Ok.seq ?_
        refine Ok.region Tryz.tok ?_
        refine Ok.wk (Wk.tab (L := [(4, (vb true))]) (H' := []) ⟨Le.refl _, True.intro⟩ True.intro rfl) ?_
        refine Ok.ret ?_
        have hB1 := out_ret hB1 hy1
        cases hB1
        exact Fz.v
      · refine Ok.skip ?_
        refine Ok.region Tryz.tok ?_
        obtain ⟨hc1, hB1⟩ := chk_some hB1
        refine (Or.inl ⟨hc1, ?_⟩)
        exact ⟨_, (Option.some.inj hB1).symm, Wk.tab ⟨Le.refl _, Le.refl _, Le.refl _, True.intro⟩ True.intro rfl⟩
    · refine Ok.exit ?_
      have hB1 := out_ret hB1 hy1
      exact ⟨_, hB1, Wk.tab True.intro True.intro rfl⟩
  intro v1 h
  unfold ref29_Has_J1 at h
  refine Ok.seq ?_
  refine Ok.region Tryz.tok ?_
  refine Ok.wk (Wk.tab (L := [(4, (vb false))]) (H' := []) ⟨Le.refl _, True.intro⟩ True.intro rfl) ?_
  refine Ok.ret ?_
  cases h
  exact Fz.v

theorem w_ref29_Gone {p_named : List api_Named} {p_rooms : List api_Room} {p_leases : List api_Lease} {p_now : Int} {p_disks : List api_Disk} {r : (List Int)} (h : ref29_Gone p_named p_rooms p_leases p_now p_disks = some r) : Pure Tryz.prog 13 [(.s (List.map c_api_Named p_named)), (.s (List.map c_api_Room p_rooms)), (.s (List.map c_api_Lease p_leases)), (vi p_now), (.s (List.map c_api_Disk p_disks))] (.s (List.map Go.Cat.encI r)) := by
  refine pure_of_ok (n := 52) (c := (Tryz.f13.body.getD .skip)) Tryz.tok Tryz.func13 (by kernel_rfl) rfl rfl (Nat.le_of_ble_eq_true rfl) ?_
  unfold ref29_Gone at h
  refine Ok.wk (Wk.tab (L := [(0, (.s (List.map c_api_Named p_named))), (1, (.s (List.map c_api_Room p_rooms))), (2, (.s (List.map c_api_Lease p_leases))), (3, (vi p_now)), (4, (.s (List.map c_api_Disk p_disks)))]) (H' := []) ⟨Le.refl _, Le.refl _, Le.refl _, Le.refl _, Le.refl _, True.intro⟩ True.intro rfl) ?_
  refine Ok.seq ?_
  refine Ok.region Tryz.tok ?_
  refine Ok.wk (Wk.tab (L := [(0, (.s (List.map c_api_Named p_named))), (1, (.s (List.map c_api_Room p_rooms))), (2, (.s (List.map c_api_Lease p_leases))), (3, (vi p_now)), (4, (.s (List.map c_api_Disk p_disks)))]) (H' := []) ⟨Le.refl _, Le.refl _, Le.refl _, Le.refl _, Le.refl _, True.intro⟩ True.intro rfl) ?_
  refine Ok.seq ?_
  refine Ok.region Tryz.tok ?_
  obtain ⟨x1, hx1, h⟩ := bindS h
  refine CallOk.call (w_ref29_Keeps hx1) (LeL.refl _) ?_
  refine Ok.wk (Wk.tab (L := [(4, (.s (List.map c_api_Disk p_disks))), (11, (.s (List.map Go.Cat.encI x1)))]) (H' := []) ⟨Le.refl _, Le.refl _, True.intro⟩ True.intro rfl) ?_
  refine Ok.seq ?_
  refine Ok.region Tryz.tok ?_
  refine Ok.wk (Wk.tab (L := [(4, (.s (List.map c_api_Disk p_disks))), (11, (.s (List.map Go.Cat.encI x1))), (12, (.v (.slice none 0 0)))]) (H' := []) ⟨Le.refl _, Le.refl _, Le.refl _, True.intro⟩ True.intro rfl) ?_
  obtain ⟨v1, hv1, h⟩ := bindS h
  refine Ok.seqw ⟨Cat.tab [(12, (.s (List.map Go.Cat.encI v1)))], []⟩ ?_ ?_
  · refine Ok.seq ?_
    refine Ok.region Tryz.tok ?_
    refine Ok.wk (Wk.tab (L := [(4, (.s (List.map c_api_Disk p_disks))), (11, (.s (List.map Go.Cat.encI x1))), (12, (.v (.slice none 0 0))), (13, (vi (0)))]) (H' := []) ⟨Le.refl _, Le.refl _, Le.refl _, Le.refl _, True.intro⟩ True.intro rfl) ?_
    refine Ok.block ?_
    refine Ok.loop (fun (s1 : (List Int) × Int) => ⟨Cat.tab [(4, (.s (List.map c_api_Disk p_disks))), (11, (.s (List.map Go.Cat.encI x1))), (12, (.s (List.map Go.Cat.encI s1.1))), (13, (vi s1.2))], []⟩) (ref29_Gone_B1 p_disks x1) (s0 := ([], 0)) hv1 (Wk.tab ⟨Le.refl _, Le.refl _, Le.nil, Le.refl _, True.intro⟩ True.intro rfl) ?_
    intro s1 y1 hB1 hy1
    unfold ref29_Gone_B1 at hB1
    refine Ok.seq ?_
    refine Ok.seq ?_
    refine Ok.region Tryz.tok ?_
    refine ⟨_, List.length_map _, fun _ => ?_⟩
    refine Ok.wk (Wk.tab (L := [(4, (.s (List.map c_api_Disk p_disks))), (11, (.s (List.map Go.Cat.encI x1))), (12, (.s (List.map Go.Cat.encI s1.1))), (13, (vi s1.2)), (24, (vb ((decide (s1.2 < (p_disks.length : Int))))))]) (H' := []) ⟨Le.refl _, Le.refl _, Le.refl _, Le.refl _, Le.refl _, True.intro⟩ True.intro rfl) ?_
    refine Ok.cond (d := 24) (b := (decide (s1.2 < (p_disks.length : Int)))) rfl hB1 (fun hb hB1 => ?_) fun hb hB1 => ?_
    · refine Ok.skip ?_
      obtain ⟨v2, hv2, hB1⟩ := bindS hB1
      refine Ok.seqw ⟨Cat.tab [(4, (.s (List.map c_api_Disk p_disks))), (11, (.s (List.map Go.Cat.encI x1))), (12, (.s (List.map Go.Cat.encI v2))), (13, (vi s1.2))], []⟩ ?_ ?_
      · refine Ok.block ?_
        refine Ok.seq ?_
        refine Ok.region Tryz.tok ?_
        obtain ⟨x2, hx2, hv2⟩ := bindS hv2
        obtain ⟨x3, hx3, hv2⟩ := bindS hv2
        refine ⟨_, idx_nat hx2, _, idx_row hx2, ⟨_, rfl, ?_⟩⟩
        refine CallOk.call (w_ref25_Has hx3) (LeL.refl _) ?_
        refine Ok.wk (Wk.tab (L := [(4, (.s (List.map c_api_Disk p_disks))), (11, (.s (List.map Go.Cat.encI x1))), (12, (.s (List.map Go.Cat.encI s1.1))), (13, (vi s1.2)), (14, (.s (List.map Go.Cat.encI x3)))]) (H' := []) ⟨Le.refl _, Le.refl _, Le.refl _, Le.refl _, Le.refl _, True.intro⟩ True.intro rfl) ?_
        refine Ok.seq ?_
        refine Ok.region Tryz.tok ?_
        refine Ok.wk (Wk.tab (L := [(4, (.s (List.map c_api_Disk p_disks))), (11, (.s (List.map Go.Cat.encI x1))), (12, (.s (List.map Go.Cat.encI s1.1))), (13, (vi s1.2)), (14, (.s (List.map Go.Cat.encI x3))), (15, (vi (0)))]) (H' := []) ⟨Le.refl _, Le.refl _, Le.refl _, Le.refl _, Le.refl _, Le.refl _, True.intro⟩ True.intro rfl) ?_
        refine Ok.block ?_
        refine Ok.loop (fun (s2 : (List Int) × Int) => ⟨Cat.tab [(4, (.s (List.map c_api_Disk p_disks))), (11, (.s (List.map Go.Cat.encI x1))), (12, (.s (List.map Go.Cat.encI s2.1))), (13, (vi s1.2)), (14, (.s (List.map Go.Cat.encI x3))), (15, (vi s2.2))], []⟩) (ref29_Gone_B2 x3 x1) (s0 := (s1.1, 0)) hv2 (Wk.tab ⟨Le.refl _, Le.refl _, Le.refl _, Le.refl _, Le.refl _, Le.refl _, True.intro⟩ True.intro rfl) ?_
        intro s2 y2 hB2 hy2
        unfold ref29_Gone_B2 at hB2
        refine Ok.seq ?_
        refine Ok.seq ?_
        refine Ok.region Tryz.tok ?_
        refine ⟨_, List.length_map _, fun _ => ?_⟩
        refine Ok.wk (Wk.tab (L := [(4, (.s (List.map c_api_Disk p_disks))), (11, (.s (List.map Go.Cat.encI x1))), (12, (.s (List.map Go.Cat.encI s2.1))), (13, (vi s1.2)), (14, (.s (List.map Go.Cat.encI x3))), (15, (vi s2.2)), (35, (vb ((decide (s2.2 < (x3.length : Int))))))]) (H' := []) ⟨Le.refl _, Le.refl _, Le.refl _, Le.refl _, Le.refl _, Le.refl _, Le.refl _, True.intro⟩ True.intro rfl) ?_
        refine Ok.cond (d := 35) (b := (decide (s2.2 < (x3.length : Int)))) rfl hB2 (fun hb hB2 => ?_) fun hb hB2 => ?_
        · refine Ok.skip ?_
          obtain ⟨v3, hv3, hB2⟩ := bindS hB2
          refine Ok.seqw ⟨Cat.tab [(4, (.s (List.map c_api_Disk p_disks))), (11, (.s (List.map Go.Cat.encI x1))), (12, (.s (List.map Go.Cat.encI v3))), (13, (vi s1.2)), (14, (.s (List.map Go.Cat.encI x3))), (15, (vi s2.2))], []⟩ ?_ ?_
          · refine Ok.block ?_
            refine Ok.seq ?_
            refine Ok.region Tryz.tok ?_
            obtain ⟨x4, hx4, hv3⟩ := bindS hv3
            obtain ⟨x5, hx5, hv3⟩ := bindS hv3
            refine ⟨_, idx_nat hx4, _, idx_row hx4, ⟨_, rfl, ?_⟩⟩
            refine CallOk.call (w_ref29_Has hx5) (LeL.refl _) ?_
            refine Ok.wk (Wk.tab (L := [(4, (.s (List.map c_api_Disk p_disks))), (11, (.s (List.map Go.Cat.encI x1))), (12, (.s (List.map Go.Cat.encI s2.1))), (13, (vi s1.2)), (14, (.s (List.map Go.Cat.encI x3))), (15, (vi s2.2)), (44, (vb ((!x5))))]) (H' := []) ⟨Le.refl _, Le.refl _, Le.refl _, Le.refl _, Le.refl _, Le.refl _, Le.refl _, True.intro⟩ True.intro rfl) ?_
            refine Ok.cond (d := 44) (b := (!x5)) rfl hv3 (fun hb hv3 => ?_) fun hb hv3 => ?_
            · refine Ok.region Tryz.tok ?_
              obtain ⟨x6, hx6, hv3⟩ := bindS hv3
              obtain ⟨x7, hx7, hv3⟩ := bindS hv3
              refine ⟨_, idx_nat hx6, _, idx_row hx6, ⟨_, rfl, ?_⟩⟩
              refine CallOk.call (w_ref29_put hx7) (LeL.refl _) ?_
              cases hv3
              exact Wk.tab ⟨Le.refl _, Le.refl _, Le.refl _, Le.refl _, Le.refl _, Le.refl _, True.intro⟩ True.intro rfl
            · refine Ok.skip ?_
              cases hv3
              exact Wk.tab ⟨Le.refl _, Le.refl _, Le.refl _, Le.refl _, Le.refl _, Le.refl _, True.intro⟩ True.intro rfl
          refine Ok.region Tryz.tok ?_
          obtain ⟨hc1, hB2⟩ := chk_some hB2
          refine (Or.inl ⟨hc1, ?_⟩)
          exact ⟨_, (Option.some.inj hB2).symm, Wk.tab ⟨Le.refl _, Le.refl _, Le.refl _, Le.refl _, Le.refl _, Le.refl _, True.intro⟩ True.intro rfl⟩
        · refine Ok.exit ?_
          have hB2 := out_ret hB2 hy2
          cases hB2
          exact Wk.tab ⟨Le.refl _, Le.refl _, Le.refl _, Le.refl _, True.intro⟩ True.intro rfl
      refine Ok.region Tryz.tok ?_
      obtain ⟨hc2, hB1⟩ := chk_some hB1
      refine (Or.inl ⟨hc2, ?_⟩)
      exact ⟨_, (Option.some.inj hB1).symm, Wk.tab ⟨Le.refl _, Le.refl _, Le.refl _, Le.refl _, True.intro⟩ True.intro rfl⟩
    · refine Ok.exit ?_
      have hB1 := out_ret hB1 hy1
      cases hB1
      exact Wk.tab ⟨Le.refl _, True.intro⟩ True.intro rfl
  refine Ok.seq ?_
  refine Ok.region Tryz.tok ?_
  refine Ok.wk (Wk.tab (L := [(10, (.s (List.map Go.Cat.encI v1)))]) (H' := []) ⟨Le.refl _, True.intro⟩ True.intro rfl) ?_
  refine Ok.ret ?_
  cases h
  exact Fz.s

theorem w_ref04_Write {p_d : api_Disk} {p_at : Int} {p_data : List UInt8} {r : api_Disk × Int} (h : ref04_Write p_d p_at p_data = some r) : Pure Tryz.prog 78 [(.a [(.s (List.map c_api_Page p_d.Synced)), (.s (List.map c_api_Page p_d.Loose)), (vb p_d.Down)]), (vi p_at), (.s (List.map cU8 p_data))] (.t [(.a [(.s (List.map c_api_Page r.1.Synced)), (.s (List.map c_api_Page r.1.Loose)), (vb r.1.Down)]), (vi r.2)]) := by
  refine pure_of_ok (n := 38) (c := (Tryz.f78.body.getD .skip)) Tryz.tok Tryz.func78 (by kernel_rfl) rfl rfl (Nat.le_of_ble_eq_true rfl) ?_
  unfold ref04_Write at h
  refine Ok.wk (Wk.tab (L := [(0, (.a [(.s (List.map c_api_Page p_d.Synced)), (.s (List.map c_api_Page p_d.Loose)), (vb p_d.Down)])), (1, (vi p_at)), (2, (.s (List.map cU8 p_data)))]) (H' := []) ⟨Le.refl _, Le.refl _, Le.refl _, True.intro⟩ True.intro rfl) ?_
  refine Ok.seq ?_
  refine Ok.region Tryz.tok ?_
  refine Ok.wk (Wk.tab (L := [(1, (vi p_at)), (2, (.s (List.map cU8 p_data))), (3, (.b 3 0)), (6, (.b 6 0))]) (H' := [(3, .box [(.s (List.map c_api_Page p_d.Synced)), (.s (List.map c_api_Page p_d.Loose)), (vb p_d.Down)]), (6, .box [(.v (.slice none 0 0)), (.v (.slice none 0 0)), (vb false)])]) ⟨Le.refl _, Le.refl _, Le.refl _, Le.refl _, True.intro⟩ ⟨⟨_, rfl, .refl _⟩, ⟨_, rfl, .refl _⟩, True.intro⟩ rfl) ?_
  refine Ok.seq ?_
  refine Ok.seq ?_
  refine Ok.region Tryz.tok ?_
  refine ⟨_, rfl, ?_⟩
  refine Ok.wk (Wk.tab (L := [(1, (vi p_at)), (2, (.s (List.map cU8 p_data))), (3, (.b 3 0)), (6, (.b 6 0)), (12, (vb p_d.Down))]) (H' := [(3, .box [(.s (List.map c_api_Page p_d.Synced)), (.s (List.map c_api_Page p_d.Loose)), (vb p_d.Down)]), (6, .box [(.v (.slice none 0 0)), (.v (.slice none 0 0)), (vb false)])]) ⟨Le.refl _, Le.refl _, Le.refl _, Le.refl _, Le.refl _, True.intro⟩ ⟨⟨_, rfl, .refl _⟩, ⟨_, rfl, .refl _⟩, True.intro⟩ rfl) ?_
  refine Ok.cond (d := 12) (b := p_d.Down) rfl h (fun hb h => ?_) fun hb h => ?_
  · refine Ok.seq ?_
    refine Ok.region Tryz.tok ?_
    refine ⟨_, rfl, ⟨_, rfl, ?_⟩⟩
    refine Ok.wk (Wk.tab (L := [(6, (.b 6 0)), (7, (vi (40)))]) (H' := [(6, .box [(.s (List.map c_api_Page p_d.Synced)), (.s (List.map c_api_Page p_d.Loose)), (vb p_d.Down)])]) ⟨Le.refl _, Le.refl _, True.intro⟩ ⟨⟨_, rfl, .refl _⟩, True.intro⟩ rfl) ?_
    refine Ok.ret ?_
    cases h
    exact ⟨_, rfl, (Fz.t (.cons (Fz.imm rfl) (.cons Fz.v .nil)))⟩
  · refine Ok.skip ?_
    refine Ok.seq ?_
    refine Ok.region Tryz.tok ?_
    refine ⟨_, rfl, ?_⟩
    refine Ok.wk (Wk.tab (L := [(3, (.b 3 0)), (6, (.b 6 0)), (8, (.b 8 0))]) (H' := [(3, .box [(.s (List.map c_api_Page p_d.Synced)), (.s (List.map c_api_Page p_d.Loose)), (vb p_d.Down)]), (6, .box [(.v (.slice none 0 0)), (.v (.slice none 0 0)), (vb false)]), (8, .box [(vi p_at), (.s (List.map cU8 p_data))])]) ⟨Le.refl _, Le.refl _, Le.refl _, True.intro⟩ ⟨⟨_, rfl, .refl _⟩, ⟨_, rfl, .refl _⟩, ⟨_, rfl, .refl _⟩, True.intro⟩ rfl) ?_
    refine Ok.seq ?_
    refine Ok.region Tryz.tok ?_
    obtain ⟨x1, hx1, h⟩ := bindS h
    refine ⟨_, rfl, ?_⟩
    refine CallOk.call (w_ref04_Page hx1) (LeL.refl _) ?_
    refine Ok.wk (Wk.tab (L := [(3, (.b 3 0)), (6, (.b 6 0)), (8, (.b 8 0)), (9, (vb x1))]) (H' := [(3, .box [(.s (List.map c_api_Page p_d.Synced)), (.s (List.map c_api_Page p_d.Loose)), (vb p_d.Down)]), (6, .box [(.v (.slice none 0 0)), (.v (.slice none 0 0)), (vb false)]), (8, .box [(vi p_at), (.s (List.map cU8 p_data))])]) ⟨Le.refl _, Le.refl _, Le.refl _, Le.refl _, True.intro⟩ ⟨⟨_, rfl, .refl _⟩, ⟨_, rfl, .refl _⟩, ⟨_, rfl, .refl _⟩, True.intro⟩ rfl) ?_
    refine Ok.seq ?_
    refine Ok.seq ?_
    refine Ok.region Tryz.tok ?_
    refine Ok.wk (Wk.tab (L := [(3, (.b 3 0)), (6, (.b 6 0)), (8, (.b 8 0)), (20, (vb ((!x1))))]) (H' := [(3, .box [(.s (List.map c_api_Page p_d.Synced)), (.s (List.map c_api_Page p_d.Loose)), (vb p_d.Down)]), (6, .box [(.v (.slice none 0 0)), (.v (.slice none 0 0)), (vb false)]), (8, .box [(vi p_at), (.s (List.map cU8 p_data))])]) ⟨Le.refl _, Le.refl _, Le.refl _, Le.refl _, True.intro⟩ ⟨⟨_, rfl, .refl _⟩, ⟨_, rfl, .refl _⟩, ⟨_, rfl, .refl _⟩, True.intro⟩ rfl) ?_
    refine Ok.cond (d := 20) (b := (!x1)) rfl h (fun hb h => ?_) fun hb h => ?_
    · refine Ok.seq ?_
      refine Ok.region Tryz.tok ?_
      refine ⟨_, rfl, ⟨_, rfl, ?_⟩⟩
      refine Ok.wk (Wk.tab (L := [(6, (.b 6 0)), (7, (vi (1)))]) (H' := [(6, .box [(.s (List.map c_api_Page p_d.Synced)), (.s (List.map c_api_Page p_d.Loose)), (vb p_d.Down)])]) ⟨Le.refl _, Le.refl _, True.intro⟩ ⟨⟨_, rfl, .refl _⟩, True.intro⟩ rfl) ?_
      refine Ok.ret ?_
      cases h
      exact ⟨_, rfl, (Fz.t (.cons (Fz.imm rfl) (.cons Fz.v .nil)))⟩
    · refine Ok.skip ?_
      refine Ok.seq ?_
      refine Ok.region Tryz.tok ?_
      refine ⟨_, rfl, ⟨_, rfl, ?_⟩⟩
      refine Ok.wk (Wk.tab (L := [(3, (.b 3 0)), (6, (.b 6 0)), (8, (.b 8 0)), (10, (.b 10 0))]) (H' := [(3, .box [(.s (List.map c_api_Page p_d.Synced)), (.s (List.map c_api_Page p_d.Loose)), (vb p_d.Down)]), (6, .box [(.v (.slice none 0 0)), (.v (.slice none 0 0)), (vb false)]), (8, .box [(vi p_at), (.s (List.map cU8 p_data))]), (10, .box [(.s (List.map c_api_Page p_d.Synced)), (.v (.slice none 0 0)), (vb false)])]) ⟨Le.refl _, Le.refl _, Le.refl _, Le.refl _, True.intro⟩ ⟨⟨_, rfl, .refl _⟩, ⟨_, rfl, .refl _⟩, ⟨_, rfl, .refl _⟩, ⟨_, rfl, .refl _⟩, True.intro⟩ rfl) ?_
      refine Ok.seq ?_
      refine Ok.region Tryz.tok ?_
      obtain ⟨hc1, h⟩ := chk_some h
      refine ⟨_, rfl, ⟨_, rfl, ⟨rowsLen_map (f := c_api_Page) (n := 2) (fun _ => rfl) p_d.Loose, app_b1 (f := c_api_Page) (l' := p_d.Loose) hc1, _, rfl, ⟨_, rfl, ?_⟩⟩⟩⟩
      refine Ok.wk (Wk.tab (L := [(6, (.b 6 0)), (8, (.b 8 0)), (10, (.b 10 0))]) (H' := [(6, .box [(.v (.slice none 0 0)), (.v (.slice none 0 0)), (vb false)]), (8, .box [(vi p_at), (.s (List.map cU8 p_data))]), (10, .box [(.s (List.map c_api_Page p_d.Synced)), (.o 29), (vb false)]), (29, .own 120 2 (List.map c_api_Page p_d.Loose))]) ⟨Le.refl _, Le.refl _, Le.refl _, True.intro⟩ ⟨⟨_, rfl, .refl _⟩, ⟨_, rfl, .refl _⟩, ⟨_, rfl, .refl _⟩, ⟨_, rfl, .refl _⟩, True.intro⟩ rfl) ?_
      refine Ok.seq ?_
      refine Ok.region Tryz.tok ?_
      obtain ⟨hc2, h⟩ := chk_some h
      refine ⟨_, rfl, ⟨_, rfl, Or.inl ⟨rowsLen_map (f := c_api_Page) (n := 2) (fun _ => rfl) ([(⟨p_at, p_data⟩ : api_Page)]), app_b2 (f := c_api_Page) (l := p_d.Loose) (l' := ([(⟨p_at, p_data⟩ : api_Page)])) hc2, _, (List.map_append (f := c_api_Page) (l₁ := p_d.Loose) (l₂ := ([(⟨p_at, p_data⟩ : api_Page)]))).symm, ⟨_, rfl, ?_⟩⟩⟩⟩
      refine Ok.wk (Wk.tab (L := [(6, (.b 6 0)), (10, (.b 10 0))]) (H' := [(6, .box [(.v (.slice none 0 0)), (.v (.slice none 0 0)), (vb false)]), (10, .box [(.s (List.map c_api_Page p_d.Synced)), (.o 29), (vb false)]), (29, .own 120 2 (List.map c_api_Page ((p_d.Loose ++ [(⟨p_at, p_data⟩ : api_Page)]))))]) ⟨Le.refl _, Le.refl _, True.intro⟩ ⟨⟨_, rfl, .refl _⟩, ⟨_, rfl, .refl _⟩, ⟨_, rfl, .refl _⟩, True.intro⟩ rfl) ?_
      refine Ok.seq ?_
      refine Ok.region Tryz.tok ?_
      refine ⟨_, rfl, ⟨_, rfl, ?_⟩⟩
      refine Ok.wk (Wk.tab (L := [(6, (.b 6 0)), (7, (vi (0)))]) (H' := [(6, .box [(.s (List.map c_api_Page p_d.Synced)), (.o 29), (vb false)]), (29, .own 120 2 (List.map c_api_Page ((p_d.Loose ++ [(⟨p_at, p_data⟩ : api_Page)]))))]) ⟨Le.refl _, Le.refl _, True.intro⟩ ⟨⟨_, rfl, .refl _⟩, ⟨_, rfl, .refl _⟩, True.intro⟩ rfl) ?_
      refine Ok.ret ?_
      cases h
      exact ⟨_, rfl, (Fz.t (.cons (Fz.a (.cons Fz.s (.cons (Fz.o rfl) (.cons Fz.v .nil)))) (.cons Fz.v .nil)))⟩

theorem w_ref25_Lose {p_d : api_Disk} {p_id : Int} {r : api_Disk × Int} (h : ref25_Lose p_d p_id = some r) : Pure Tryz.prog 52 [(.a [(.s (List.map c_api_Page p_d.Synced)), (.s (List.map c_api_Page p_d.Loose)), (vb p_d.Down)]), (vi p_id)] (.t [(.a [(.s (List.map c_api_Page r.1.Synced)), (.s (List.map c_api_Page r.1.Loose)), (vb r.1.Down)]), (vi r.2)]) := by
  refine pure_of_ok (n := 34) (c := (Tryz.f52.body.getD .skip)) Tryz.tok Tryz.func52 (by kernel_rfl) rfl rfl (Nat.le_of_ble_eq_true rfl) ?_
  unfold ref25_Lose at h
  refine Ok.wk (Wk.tab (L := [(0, (.a [(.s (List.map c_api_Page p_d.Synced)), (.s (List.map c_api_Page p_d.Loose)), (vb p_d.Down)])), (1, (vi p_id))]) (H' := []) ⟨Le.refl _, Le.refl _, True.intro⟩ True.intro rfl) ?_
  refine Ok.seq ?_
  refine Ok.region Tryz.tok ?_
  refine Ok.wk (Wk.tab (L := [(1, (vi p_id)), (2, (.b 2 0)), (4, (.b 4 0))]) (H' := [(2, .box [(.s (List.map c_api_Page p_d.Synced)), (.s (List.map c_api_Page p_d.Loose)), (vb p_d.Down)]), (4, .box [(.v (.slice none 0 0)), (.v (.slice none 0 0)), (vb false)])]) ⟨Le.refl _, Le.refl _, Le.refl _, True.intro⟩ ⟨⟨_, rfl, .refl _⟩, ⟨_, rfl, .refl _⟩, True.intro⟩ rfl) ?_
  refine Ok.seq ?_
  obtain ⟨v1, hv1, h⟩ := bindS h
  refine Ok.seqw ⟨Cat.tab [(1, (vi p_id)), (2, (.b 2 0)), (4, (.b 4 0)), (13, (vb v1))], [(2, .box [(.s (List.map c_api_Page p_d.Synced)), (.s (List.map c_api_Page p_d.Loose)), (vb p_d.Down)]), (4, .box [(.v (.slice none 0 0)), (.v (.slice none 0 0)), (vb false)])]⟩ ?_ ?_
  · refine Ok.region Tryz.tok ?_
    obtain ⟨c1, hg1, hv1⟩ := bindS hv1
    refine Br.itf hg1 (fun hb hg1 => ?_) fun hb hg1 => ?_
    · cases hg1
      cases hv1
      exact Wk.tab ⟨Le.refl _, Le.refl _, Le.refl _, Le.refl _, True.intro⟩ ⟨⟨_, rfl, .refl _⟩, ⟨_, rfl, .refl _⟩, True.intro⟩ rfl
    · cases hg1
      cases hv1
      exact Wk.tab ⟨Le.refl _, Le.refl _, Le.refl _, Le.refl _, True.intro⟩ ⟨⟨_, rfl, .refl _⟩, ⟨_, rfl, .refl _⟩, True.intro⟩ rfl
  refine Ok.cond (d := 13) (b := v1) rfl h (fun hb h => ?_) fun hb h => ?_
  · refine Ok.seq ?_
    refine Ok.region Tryz.tok ?_
    refine ⟨_, rfl, ⟨_, rfl, ?_⟩⟩
    refine Ok.wk (Wk.tab (L := [(4, (.b 4 0)), (5, (vi (1)))]) (H' := [(4, .box [(.s (List.map c_api_Page p_d.Synced)), (.s (List.map c_api_Page p_d.Loose)), (vb p_d.Down)])]) ⟨Le.refl _, Le.refl _, True.intro⟩ ⟨⟨_, rfl, .refl _⟩, True.intro⟩ rfl) ?_
    refine Ok.ret ?_
    cases h
    exact ⟨_, rfl, (Fz.t (.cons (Fz.imm rfl) (.cons Fz.v .nil)))⟩
  · refine Ok.skip ?_
    refine Ok.seq ?_
    refine Ok.region Tryz.tok ?_
    obtain ⟨x1, hx1, h⟩ := bindS h
    refine ⟨_, rfl, ?_⟩
    refine CallOk.call (w_ref04_Read hx1) (LeL.refl _) ?_
    refine Ok.wk (Wk.tab (L := [(1, (vi p_id)), (2, (.b 2 0)), (4, (.b 4 0)), (6, (.s (List.map cU8 x1.1))), (7, (vi x1.2))]) (H' := [(2, .box [(.s (List.map c_api_Page p_d.Synced)), (.s (List.map c_api_Page p_d.Loose)), (vb p_d.Down)]), (4, .box [(.v (.slice none 0 0)), (.v (.slice none 0 0)), (vb false)])]) ⟨Le.refl _, Le.refl _, Le.refl _, Le.refl _, Le.refl _, True.intro⟩ ⟨⟨_, rfl, .refl _⟩, ⟨_, rfl, .refl _⟩, True.intro⟩ rfl) ?_
    refine Ok.seq ?_
    refine Ok.seq ?_
    refine Ok.region Tryz.tok ?_
    refine Ok.wk (Wk.tab (L := [(1, (vi p_id)), (2, (.b 2 0)), (4, (.b 4 0)), (6, (.s (List.map cU8 x1.1))), (7, (vi x1.2)), (22, (vb ((x1.2 != 0))))]) (H' := [(2, .box [(.s (List.map c_api_Page p_d.Synced)), (.s (List.map c_api_Page p_d.Loose)), (vb p_d.Down)]), (4, .box [(.v (.slice none 0 0)), (.v (.slice none 0 0)), (vb false)])]) ⟨Le.refl _, Le.refl _, Le.refl _, Le.refl _, Le.refl _, Le.refl _, True.intro⟩ ⟨⟨_, rfl, .refl _⟩, ⟨_, rfl, .refl _⟩, True.intro⟩ rfl) ?_
    refine Ok.cond (d := 22) (b := (x1.2 != 0)) rfl h (fun hb h => ?_) fun hb h => ?_
    · refine Ok.seq ?_
      refine Ok.region Tryz.tok ?_
      refine ⟨_, rfl, ⟨_, rfl, ?_⟩⟩
      refine Ok.wk (Wk.tab (L := [(4, (.b 4 0)), (5, (vi x1.2))]) (H' := [(4, .box [(.s (List.map c_api_Page p_d.Synced)), (.s (List.map c_api_Page p_d.Loose)), (vb p_d.Down)])]) ⟨Le.refl _, Le.refl _, True.intro⟩ ⟨⟨_, rfl, .refl _⟩, True.intro⟩ rfl) ?_
      refine Ok.ret ?_
      cases h
      exact ⟨_, rfl, (Fz.t (.cons (Fz.imm rfl) (.cons Fz.v .nil)))⟩
    · refine Ok.skip ?_
      refine Ok.seq ?_
      refine Ok.seq ?_
      refine Ok.region Tryz.tok ?_
      refine ⟨_, List.length_map _, fun _ => ?_⟩
      refine Ok.wk (Wk.tab (L := [(1, (vi p_id)), (2, (.b 2 0)), (4, (.b 4 0)), (27, (vb (((x1.1.length : Int) == 0))))]) (H' := [(2, .box [(.s (List.map c_api_Page p_d.Synced)), (.s (List.map c_api_Page p_d.Loose)), (vb p_d.Down)]), (4, .box [(.v (.slice none 0 0)), (.v (.slice none 0 0)), (vb false)])]) ⟨Le.refl _, Le.refl _, Le.refl _, Le.refl _, True.intro⟩ ⟨⟨_, rfl, .refl _⟩, ⟨_, rfl, .refl _⟩, True.intro⟩ rfl) ?_
      refine Ok.cond (d := 27) (b := ((x1.1.length : Int) == 0)) rfl h (fun hb h => ?_) fun hb h => ?_
      · refine Ok.seq ?_
        refine Ok.region Tryz.tok ?_
        refine ⟨_, rfl, ⟨_, rfl, ?_⟩⟩
        refine Ok.wk (Wk.tab (L := [(4, (.b 4 0)), (5, (vi (41)))]) (H' := [(4, .box [(.s (List.map c_api_Page p_d.Synced)), (.s (List.map c_api_Page p_d.Loose)), (vb p_d.Down)])]) ⟨Le.refl _, Le.refl _, True.intro⟩ ⟨⟨_, rfl, .refl _⟩, True.intro⟩ rfl) ?_
        refine Ok.ret ?_
        cases h
        exact ⟨_, rfl, (Fz.t (.cons (Fz.imm rfl) (.cons Fz.v .nil)))⟩
      · refine Ok.skip ?_
        refine Ok.seq ?_
        refine Ok.region Tryz.tok ?_
        obtain ⟨x2, hx2, h⟩ := bindS h
        refine ⟨_, rfl, ?_⟩
        refine CallOk.call (w_ref04_Write hx2) (.cons (Le.refl _) (.cons (Le.refl _) (.cons (Le.nil) (.nil)))) ?_
        refine ⟨_, rfl, ?_⟩
        refine Ok.wk (Wk.tab (L := [(4, (.b 4 0)), (5, (vi x2.2))]) (H' := [(4, .box [(.s (List.map c_api_Page x2.1.Synced)), (.s (List.map c_api_Page x2.1.Loose)), (vb x2.1.Down)])]) ⟨Le.refl _, Le.refl _, True.intro⟩ ⟨⟨_, rfl, .refl _⟩, True.intro⟩ rfl) ?_
        refine Ok.ret ?_
        cases h
        exact ⟨_, rfl, (Fz.t (.cons (Fz.imm rfl) (.cons Fz.v .nil)))⟩

theorem wo_ref04_lay {p_l : List api_Page} {p_p : api_Page} {r : (List api_Page)} (h : ref04_lay p_l p_p = some r) : POwn Tryz.prog 79 [(.s (List.map c_api_Page p_l)), (.a [(vi p_p.At), (.s (List.map cU8 p_p.Data))])] 120 2 (List.map c_api_Page r) := by
  refine pown_of_ok (n := 52) (c := (Tryz.f79.body.getD .skip)) Tryz.tok Tryz.func79 (by kernel_rfl) rfl rfl (Nat.le_of_ble_eq_true rfl) ?_
  unfold ref04_lay at h
  refine Ok.wk (Wk.tab (L := [(0, (.s (List.map c_api_Page p_l))), (1, (.a [(vi p_p.At), (.s (List.map cU8 p_p.Data))]))]) (H' := []) ⟨Le.refl _, Le.refl _, True.intro⟩ True.intro rfl) ?_
  refine Ok.seq ?_
  refine Ok.region Tryz.tok ?_
  refine Ok.wk (Wk.tab (L := [(0, (.s (List.map c_api_Page p_l))), (3, (.b 3 0))]) (H' := [(3, .box [(vi p_p.At), (.s (List.map cU8 p_p.Data))])]) ⟨Le.refl _, Le.refl _, True.intro⟩ ⟨⟨_, rfl, .refl _⟩, True.intro⟩ rfl) ?_
  refine Ok.seq ?_
  refine Ok.region Tryz.tok ?_
  refine Ok.wk (Wk.tab (L := [(0, (.s (List.map c_api_Page p_l))), (3, (.b 3 0)), (5, (.v (.slice none 0 0)))]) (H' := [(3, .box [(vi p_p.At), (.s (List.map cU8 p_p.Data))])]) ⟨Le.refl _, Le.refl _, Le.refl _, True.intro⟩ ⟨⟨_, rfl, .refl _⟩, True.intro⟩ rfl) ?_
  refine Ok.seq ?_
  refine Ok.region Tryz.tok ?_
  refine Ok.wk (Wk.tab (L := [(0, (.s (List.map c_api_Page p_l))), (3, (.b 3 0)), (5, (.v (.slice none 0 0))), (6, (vb false))]) (H' := [(3, .box [(vi p_p.At), (.s (List.map cU8 p_p.Data))])]) ⟨Le.refl _, Le.refl _, Le.refl _, Le.refl _, True.intro⟩ ⟨⟨_, rfl, .refl _⟩, True.intro⟩ rfl) ?_
  obtain ⟨v1, hv1, h⟩ := bindS h
  refine Ok.seqw ⟨Cat.tab [(3, (.b 3 0)), (5, (.o 29)), (6, (vb v1.1))], [(3, .box [(vi p_p.At), (.s (List.map cU8 p_p.Data))]), (29, .own 120 2 (List.map c_api_Page v1.2))]⟩ ?_ ?_
  · refine Ok.seq ?_
    refine Ok.region Tryz.tok ?_
    refine Ok.wk (Wk.tab (L := [(0, (.s (List.map c_api_Page p_l))), (3, (.b 3 0)), (5, (.v (.slice none 0 0))), (6, (vb false)), (7, (vi (0)))]) (H' := [(3, .box [(vi p_p.At), (.s (List.map cU8 p_p.Data))])]) ⟨Le.refl _, Le.refl _, Le.refl _, Le.refl _, Le.refl _, True.intro⟩ ⟨⟨_, rfl, .refl _⟩, True.intro⟩ rfl) ?_
    refine Ok.block ?_
    refine Ok.loop (fun (s1 : Bool × Int × (List api_Page)) => ⟨Cat.tab [(0, (.s (List.map c_api_Page p_l))), (3, (.b 3 0)), (5, (.o 29)), (6, (vb s1.1)), (7, (vi s1.2.1))], [(3, .box [(vi p_p.At), (.s (List.map cU8 p_p.Data))]), (29, .own 120 2 (List.map c_api_Page s1.2.2))]⟩) (ref04_lay_B1 p_l p_p) (s0 := (false, 0, [])) hv1 ((Wk.own0 (t := 5) (id := 29) (E := 120) (K := 2) rfl rfl).trans (Wk.tab ⟨Le.refl _, Le.refl _, Le.refl _, Le.refl _, Le.refl _, True.intro⟩ ⟨⟨_, rfl, .refl _⟩, ⟨_, rfl, .refl _⟩, True.intro⟩ rfl)) ?_
    intro s1 y1 hB1 hy1
    unfold ref04_lay_B1 at hB1
    refine Ok.seq ?_
    refine Ok.seq ?_
    refine Ok.region Tryz.tok ?_
    refine ⟨_, List.length_map _, fun _ => ?_⟩
    refine Ok.wk (Wk.tab (L := [(0, (.s (List.map c_api_Page p_l))), (3, (.b 3 0)), (5, (.o 29)), (6, (vb s1.1)), (7, (vi s1.2.1)), (11, (vb ((decide (s1.2.1 < (p_l.length : Int))))))]) (H' := [(3, .box [(vi p_p.At), (.s (List.map cU8 p_p.Data))]), (29, .own 120 2 (List.map c_api_Page s1.2.2))]) ⟨Le.refl _, Le.refl _, Le.refl _, Le.refl _, Le.refl _, Le.refl _, True.intro⟩ ⟨⟨_, rfl, .refl _⟩, ⟨_, rfl, .refl _⟩, True.intro⟩ rfl) ?_
    refine Ok.cond (d := 11) (b := (decide (s1.2.1 < (p_l.length : Int)))) rfl hB1 (fun hb hB1 => ?_) fun hb hB1 => ?_
    · refine Ok.skip ?_
      obtain ⟨v2, hv2, hB1⟩ := bindS hB1
      refine Ok.seqw ⟨Cat.tab [(0, (.s (List.map c_api_Page p_l))), (3, (.b 3 0)), (5, (.o 29)), (6, (vb v2.1)), (7, (vi s1.2.1))], [(3, .box [(vi p_p.At), (.s (List.map cU8 p_p.Data))]), (29, .own 120 2 (List.map c_api_Page v2.2))]⟩ ?_ ?_
      · refine Ok.block ?_
        obtain ⟨v3, hv3, hv2⟩ := bindS hv2
        refine Ok.seqw ⟨Cat.tab [(0, (.s (List.map c_api_Page p_l))), (3, (.b 3 0)), (5, (.o 29)), (6, (vb v3.1)), (7, (vi s1.2.1))], [(3, .box [(vi p_p.At), (.s (List.map cU8 p_p.Data))]), (29, .own 120 2 (List.map c_api_Page v3.2))]⟩ ?_ ?_
        · obtain ⟨v4, hv4, hv3⟩ := bindS hv3
          refine Ok.seqw ⟨Cat.tab [(0, (.s (List.map c_api_Page p_l))), (3, (.b 3 0)), (5, (.o 29)), (6, (vb s1.1)), (7, (vi s1.2.1)), (25, (vb v4))], [(3, .box [(vi p_p.At), (.s (List.map cU8 p_p.Data))]), (29, .own 120 2 (List.map c_api_Page s1.2.2))]⟩ ?_ ?_
          · refine Ok.draw (m := 12) (MD := ⟨[]⟩) (CH := ⟨[]⟩) Tryz.tok Tryz.mixed (by kernel_rfl) ?_
            refine ⟨_, rfl, ⟨_, rfl, ⟨_, rfl, ?_⟩⟩⟩
            obtain ⟨c1, hg1, hv4⟩ := bindS hv4
            refine Br.ite hg1 (fun hb hg1 => ?_) fun hb hg1 => ?_
            · obtain ⟨x1, hx1, hg1⟩ := bindS hg1
              refine ⟨_, rfl, ⟨_, rfl, ⟨_, ⟨_, idx_nat hx1, _, idx_row hx1, rfl⟩, ⟨_, rfl, ⟨_, ⟨_, rfl, rfl⟩, ⟨_, rfl, ⟨_, ⟨_, rfl, rfl⟩, ⟨_, rfl, ?_⟩⟩⟩⟩⟩⟩⟩⟩
              cases hg1
              refine ⟨_, rfl, ?_⟩
              refine ⟨True.intro, ?_⟩
              cases hv4
              exact Wk.tab ⟨Le.refl _, Le.refl _, Le.refl _, Le.refl _, Le.refl _, Le.refl _, True.intro⟩ ⟨⟨_, rfl, .refl _⟩, ⟨_, rfl, .refl _⟩, True.intro⟩ rfl
            · cases hg1
              refine ⟨_, rfl, ?_⟩
              refine ⟨True.intro, ?_⟩
              cases hv4
              exact Wk.tab ⟨Le.refl _, Le.refl _, Le.refl _, Le.refl _, Le.refl _, Le.refl _, True.intro⟩ ⟨⟨_, rfl, .refl _⟩, ⟨_, rfl, .refl _⟩, True.intro⟩ rfl
          refine Ok.cond (d := 25) (b := v4) rfl hv3 (fun hb hv3 => ?_) fun hb hv3 => ?_
          · refine Ok.seq ?_
            refine Ok.region Tryz.tok ?_
            obtain ⟨hc1, hv3⟩ := chk_some hv3
            refine ⟨_, rfl, Or.inl ⟨rowsLen_map (f := c_api_Page) (n := 2) (fun _ => rfl) ([p_p]), app_b2 (f := c_api_Page) (l := s1.2.2) (l' := ([p_p])) hc1, _, (List.map_append (f := c_api_Page) (l₁ := s1.2.2) (l₂ := ([p_p]))).symm, ?_⟩⟩
            refine Ok.wk (Wk.tab (L := [(0, (.s (List.map c_api_Page p_l))), (3, (.b 3 0)), (5, (.o 29)), (7, (vi s1.2.1))]) (H' := [(3, .box [(vi p_p.At), (.s (List.map cU8 p_p.Data))]), (29, .own 120 2 (List.map c_api_Page ((s1.2.2 ++ [p_p]))))]) ⟨Le.refl _, Le.refl _, Le.refl _, Le.refl _, True.intro⟩ ⟨⟨_, rfl, .refl _⟩, ⟨_, rfl, .refl _⟩, True.intro⟩ rfl) ?_
            refine Ok.region Tryz.tok ?_
            cases hv3
            exact Wk.tab ⟨Le.refl _, Le.refl _, Le.refl _, Le.refl _, Le.refl _, True.intro⟩ ⟨⟨_, rfl, .refl _⟩, ⟨_, rfl, .refl _⟩, True.intro⟩ rfl
          · refine Ok.skip ?_
            cases hv3
            exact Wk.tab ⟨Le.refl _, Le.refl _, Le.refl _, Le.refl _, Le.refl _, True.intro⟩ ⟨⟨_, rfl, .refl _⟩, ⟨_, rfl, .refl _⟩, True.intro⟩ rfl
        refine Ok.seq ?_
        refine Ok.draw (m := 8) (MD := ⟨[]⟩) (CH := ⟨[]⟩) Tryz.tok Tryz.mixed (by kernel_rfl) ?_
        obtain ⟨x2, hx2, hv2⟩ := bindS hv2
        refine ⟨_, rfl, ⟨_, rfl, ⟨_, ⟨_, idx_nat hx2, _, idx_row hx2, rfl⟩, ⟨_, rfl, ⟨_, ⟨_, rfl, rfl⟩, ⟨_, rfl, ⟨_, ⟨_, rfl, rfl⟩, ⟨_, rfl, ⟨True.intro, ?_⟩⟩⟩⟩⟩⟩⟩⟩⟩
        refine Ok.wk (Wk.tab (L := [(0, (.s (List.map c_api_Page p_l))), (3, (.b 3 0)), (5, (.o 29)), (6, (vb v3.1)), (7, (vi s1.2.1)), (37, (vb ((x2.At != p_p.At))))]) (H' := [(3, .box [(vi p_p.At), (.s (List.map cU8 p_p.Data))]), (29, .own 120 2 (List.map c_api_Page v3.2))]) ⟨Le.refl _, Le.refl _, Le.refl _, Le.refl _, Le.refl _, Le.refl _, True.intro⟩ ⟨⟨_, rfl, .refl _⟩, ⟨_, rfl, .refl _⟩, True.intro⟩ rfl) ?_
        refine Ok.cond (d := 37) (b := (x2.At != p_p.At)) rfl hv2 (fun hb hv2 => ?_) fun hb hv2 => ?_
        · refine Ok.region Tryz.tok ?_
          obtain ⟨x3, hx3, hv2⟩ := bindS hv2
          obtain ⟨hc2, hv2⟩ := chk_some hv2
          refine ⟨_, idx_nat hx3, _, idx_row hx3, ⟨_, rfl, Or.inl ⟨rowsLen_map (f := c_api_Page) (n := 2) (fun _ => rfl) ([x3]), app_b2 (f := c_api_Page) (l := v3.2) (l' := ([x3])) hc2, _, (List.map_append (f := c_api_Page) (l₁ := v3.2) (l₂ := ([x3]))).symm, ?_⟩⟩⟩
          cases hv2
          exact Wk.tab ⟨Le.refl _, Le.refl _, Le.refl _, Le.refl _, Le.refl _, True.intro⟩ ⟨⟨_, rfl, .refl _⟩, ⟨_, rfl, .refl _⟩, True.intro⟩ rfl
        · refine Ok.skip ?_
          cases hv2
          exact Wk.tab ⟨Le.refl _, Le.refl _, Le.refl _, Le.refl _, Le.refl _, True.intro⟩ ⟨⟨_, rfl, .refl _⟩, ⟨_, rfl, .refl _⟩, True.intro⟩ rfl
      refine Ok.region Tryz.tok ?_
      obtain ⟨hc3, hB1⟩ := chk_some hB1
      refine (Or.inl ⟨hc3, ?_⟩)
      exact ⟨_, (Option.some.inj hB1).symm, Wk.tab ⟨Le.refl _, Le.refl _, Le.refl _, Le.refl _, Le.refl _, True.intro⟩ ⟨⟨_, rfl, .refl _⟩, ⟨_, rfl, .refl _⟩, True.intro⟩ rfl⟩
    · refine Ok.exit ?_
      have hB1 := out_ret hB1 hy1
      cases hB1
      exact Wk.tab ⟨Le.refl _, Le.refl _, Le.refl _, True.intro⟩ ⟨⟨_, rfl, .refl _⟩, ⟨_, rfl, .refl _⟩, True.intro⟩ rfl
  obtain ⟨v5, hv5, h⟩ := bindS h
  refine Ok.seqw ⟨Cat.tab [(5, (.o 29))], [(29, .own 120 2 (List.map c_api_Page v5))]⟩ ?_ ?_
  · refine Ok.seq ?_
    refine Ok.region Tryz.tok ?_
    refine Ok.wk (Wk.tab (L := [(3, (.b 3 0)), (5, (.o 29)), (46, (vb ((!v1.1))))]) (H' := [(3, .box [(vi p_p.At), (.s (List.map cU8 p_p.Data))]), (29, .own 120 2 (List.map c_api_Page v1.2))]) ⟨Le.refl _, Le.refl _, Le.refl _, True.intro⟩ ⟨⟨_, rfl, .refl _⟩, ⟨_, rfl, .refl _⟩, True.intro⟩ rfl) ?_
    refine Ok.cond (d := 46) (b := (!v1.1)) rfl hv5 (fun hb hv5 => ?_) fun hb hv5 => ?_
    · refine Ok.region Tryz.tok ?_
      obtain ⟨hc4, hv5⟩ := chk_some hv5
      refine ⟨_, rfl, Or.inl ⟨rowsLen_map (f := c_api_Page) (n := 2) (fun _ => rfl) ([p_p]), app_b2 (f := c_api_Page) (l := v1.2) (l' := ([p_p])) hc4, _, (List.map_append (f := c_api_Page) (l₁ := v1.2) (l₂ := ([p_p]))).symm, ?_⟩⟩
      cases hv5
      exact Wk.tab ⟨Le.refl _, True.intro⟩ ⟨⟨_, rfl, .refl _⟩, True.intro⟩ rfl
    · refine Ok.skip ?_
      cases hv5
      exact Wk.tab ⟨Le.refl _, True.intro⟩ ⟨⟨_, rfl, .refl _⟩, True.intro⟩ rfl
  refine Ok.seq ?_
  refine Ok.region Tryz.tok ?_
  refine Ok.wk (Wk.tab (L := [(4, (.o 29))]) (H' := [(29, .own 120 2 (List.map c_api_Page v5))]) ⟨Le.refl _, True.intro⟩ ⟨⟨_, rfl, .refl _⟩, True.intro⟩ rfl) ?_
  refine Ok.ret ?_
  cases h
  exact (.inr ⟨_, rfl, rfl⟩)
theorem w_ref04_lay {p_l : List api_Page} {p_p : api_Page} {r : (List api_Page)} (h : ref04_lay p_l p_p = some r) : Pure Tryz.prog 79 [(.s (List.map c_api_Page p_l)), (.a [(vi p_p.At), (.s (List.map cU8 p_p.Data))])] (.s (List.map c_api_Page r)) := (wo_ref04_lay h).pure

theorem w_ref04_Sync {p_d : api_Disk} {r : api_Disk × Int} (h : ref04_Sync p_d = some r) : Pure Tryz.prog 53 [(.a [(.s (List.map c_api_Page p_d.Synced)), (.s (List.map c_api_Page p_d.Loose)), (vb p_d.Down)])] (.t [(.a [(.s (List.map c_api_Page r.1.Synced)), (.s (List.map c_api_Page r.1.Loose)), (vb r.1.Down)]), (vi r.2)]) := by
  refine pure_of_ok (n := 29) (c := (Tryz.f53.body.getD .skip)) Tryz.tok Tryz.func53 (by kernel_rfl) rfl rfl (Nat.le_of_ble_eq_true rfl) ?_
  unfold ref04_Sync at h
  refine Ok.wk (Wk.tab (L := [(0, (.a [(.s (List.map c_api_Page p_d.Synced)), (.s (List.map c_api_Page p_d.Loose)), (vb p_d.Down)]))]) (H' := []) ⟨Le.refl _, True.intro⟩ True.intro rfl) ?_
  refine Ok.seq ?_
  refine Ok.region Tryz.tok ?_
  refine Ok.wk (Wk.tab (L := [(1, (.b 1 0)), (2, (.b 2 0))]) (H' := [(1, .box [(.s (List.map c_api_Page p_d.Synced)), (.s (List.map c_api_Page p_d.Loose)), (vb p_d.Down)]), (2, .box [(.v (.slice none 0 0)), (.v (.slice none 0 0)), (vb false)])]) ⟨Le.refl _, Le.refl _, True.intro⟩ ⟨⟨_, rfl, .refl _⟩, ⟨_, rfl, .refl _⟩, True.intro⟩ rfl) ?_
  refine Ok.seq ?_
  refine Ok.seq ?_
  refine Ok.region Tryz.tok ?_
  refine ⟨_, rfl, ?_⟩
  refine Ok.wk (Wk.tab (L := [(1, (.b 1 0)), (2, (.b 2 0)), (7, (vb p_d.Down))]) (H' := [(1, .box [(.s (List.map c_api_Page p_d.Synced)), (.s (List.map c_api_Page p_d.Loose)), (vb p_d.Down)]), (2, .box [(.v (.slice none 0 0)), (.v (.slice none 0 0)), (vb false)])]) ⟨Le.refl _, Le.refl _, Le.refl _, True.intro⟩ ⟨⟨_, rfl, .refl _⟩, ⟨_, rfl, .refl _⟩, True.intro⟩ rfl) ?_
  refine Ok.cond (d := 7) (b := p_d.Down) rfl h (fun hb h => ?_) fun hb h => ?_
  · refine Ok.seq ?_
    refine Ok.region Tryz.tok ?_
    refine ⟨_, rfl, ⟨_, rfl, ?_⟩⟩
    refine Ok.wk (Wk.tab (L := [(2, (.b 2 0)), (3, (vi (40)))]) (H' := [(2, .box [(.s (List.map c_api_Page p_d.Synced)), (.s (List.map c_api_Page p_d.Loose)), (vb p_d.Down)])]) ⟨Le.refl _, Le.refl _, True.intro⟩ ⟨⟨_, rfl, .refl _⟩, True.intro⟩ rfl) ?_
    refine Ok.ret ?_
    cases h
    exact ⟨_, rfl, (Fz.t (.cons (Fz.imm rfl) (.cons Fz.v .nil)))⟩
  · refine Ok.skip ?_
    refine Ok.seq ?_
    refine Ok.region Tryz.tok ?_
    refine ⟨_, rfl, ⟨_, rfl, ?_⟩⟩
    refine Ok.wk (Wk.tab (L := [(1, (.b 1 0)), (2, (.b 2 0)), (4, (.b 4 0))]) (H' := [(1, .box [(.s (List.map c_api_Page p_d.Synced)), (.s (List.map c_api_Page p_d.Loose)), (vb p_d.Down)]), (2, .box [(.v (.slice none 0 0)), (.v (.slice none 0 0)), (vb false)]), (4, .box [(.s (List.map c_api_Page p_d.Synced)), (.v (.slice none 0 0)), (vb false)])]) ⟨Le.refl _, Le.refl _, Le.refl _, True.intro⟩ ⟨⟨_, rfl, .refl _⟩, ⟨_, rfl, .refl _⟩, ⟨_, rfl, .refl _⟩, True.intro⟩ rfl) ?_
    obtain ⟨v1, hv1, h⟩ := bindS h
    refine Ok.seqw ⟨Cat.tab [(2, (.b 2 0)), (4, (.b 4 0))], [(2, .box [(.v (.slice none 0 0)), (.v (.slice none 0 0)), (vb false)]), (4, .box [(.s (List.map c_api_Page v1)), (.v (.slice none 0 0)), (vb false)])]⟩ ?_ ?_
    · refine Ok.seq ?_
      refine Ok.region Tryz.tok ?_
      refine Ok.wk (Wk.tab (L := [(1, (.b 1 0)), (2, (.b 2 0)), (4, (.b 4 0)), (5, (vi (0)))]) (H' := [(1, .box [(.s (List.map c_api_Page p_d.Synced)), (.s (List.map c_api_Page p_d.Loose)), (vb p_d.Down)]), (2, .box [(.v (.slice none 0 0)), (.v (.slice none 0 0)), (vb false)]), (4, .box [(.s (List.map c_api_Page p_d.Synced)), (.v (.slice none 0 0)), (vb false)])]) ⟨Le.refl _, Le.refl _, Le.refl _, Le.refl _, True.intro⟩ ⟨⟨_, rfl, .refl _⟩, ⟨_, rfl, .refl _⟩, ⟨_, rfl, .refl _⟩, True.intro⟩ rfl) ?_
      refine Ok.block ?_
      refine Ok.loop (fun (s1 : Int × (List api_Page)) => ⟨Cat.tab [(1, (.b 1 0)), (2, (.b 2 0)), (4, (.b 4 0)), (5, (vi s1.1))], [(1, .box [(.s (List.map c_api_Page p_d.Synced)), (.s (List.map c_api_Page p_d.Loose)), (vb p_d.Down)]), (2, .box [(.v (.slice none 0 0)), (.v (.slice none 0 0)), (vb false)]), (4, .box [(.s (List.map c_api_Page s1.2)), (.v (.slice none 0 0)), (vb false)])]⟩) (ref04_Sync_B1 p_d) (s0 := (0, p_d.Synced)) hv1 (Wk.tab ⟨Le.refl _, Le.refl _, Le.refl _, Le.refl _, True.intro⟩ ⟨⟨_, rfl, .refl _⟩, ⟨_, rfl, .refl _⟩, ⟨_, rfl, .refl _⟩, True.intro⟩ rfl) ?_
      intro s1 y1 hB1 hy1
      unfold ref04_Sync_B1 at hB1
      refine Ok.seq ?_
      refine Ok.seq ?_
      refine Ok.region Tryz.tok ?_
      refine ⟨_, rfl, ⟨_, List.length_map _, fun _ => ?_⟩⟩
      refine Ok.wk (Wk.tab (L := [(1, (.b 1 0)), (2, (.b 2 0)), (4, (.b 4 0)), (5, (vi s1.1)), (16, (vb ((decide (s1.1 < (p_d.Loose.length : Int))))))]) (H' := [(1, .box [(.s (List.map c_api_Page p_d.Synced)), (.s (List.map c_api_Page p_d.Loose)), (vb p_d.Down)]), (2, .box [(.v (.slice none 0 0)), (.v (.slice none 0 0)), (vb false)]), (4, .box [(.s (List.map c_api_Page s1.2)), (.v (.slice none 0 0)), (vb false)])]) ⟨Le.refl _, Le.refl _, Le.refl _, Le.refl _, Le.refl _, True.intro⟩ ⟨⟨_, rfl, .refl _⟩, ⟨_, rfl, .refl _⟩, ⟨_, rfl, .refl _⟩, True.intro⟩ rfl) ?_
      refine Ok.cond (d := 16) (b := (decide (s1.1 < (p_d.Loose.length : Int)))) rfl hB1 (fun hb hB1 => ?_) fun hb hB1 => ?_
      · refine Ok.skip ?_
        refine Ok.seq ?_
        refine Ok.block ?_
        refine Ok.draw (m := 9) (MD := ⟨[]⟩) (CH := ⟨[]⟩) Tryz.tok Tryz.mixed (by kernel_rfl) ?_
        obtain ⟨x1, hx1, hB1⟩ := bindS hB1
        obtain ⟨x2, hx2, hB1⟩ := bindS hB1
        refine ⟨_, rfl, ⟨_, ⟨_, rfl, rfl⟩, ⟨_, rfl, ⟨_, ⟨_, rfl, rfl⟩, ⟨_, rfl, ⟨_, ⟨_, idx_nat hx1, _, idx_row hx1, rfl⟩, ⟨_, ⟨_, rfl, rfl⟩, ⟨_, ⟨_, .of_pure (w_ref04_lay hx2) (LeL.refl _), rfl⟩, ⟨_, rfl, ⟨True.intro, ⟨_, rfl, ?_⟩⟩⟩⟩⟩⟩⟩⟩⟩⟩⟩
        refine Ok.wk (Wk.tab (L := [(1, (.b 1 0)), (2, (.b 2 0)), (4, (.b 4 0)), (5, (vi s1.1))]) (H' := [(1, .box [(.s (List.map c_api_Page p_d.Synced)), (.s (List.map c_api_Page p_d.Loose)), (vb p_d.Down)]), (2, .box [(.v (.slice none 0 0)), (.v (.slice none 0 0)), (vb false)]), (4, .box [(.s (List.map c_api_Page x2)), (.v (.slice none 0 0)), (vb false)])]) ⟨Le.refl _, Le.refl _, Le.refl _, Le.refl _, True.intro⟩ ⟨⟨_, rfl, .refl _⟩, ⟨_, rfl, .refl _⟩, ⟨_, rfl, .refl _⟩, True.intro⟩ rfl) ?_
        refine Ok.region Tryz.tok ?_
        obtain ⟨hc1, hB1⟩ := chk_some hB1
        refine (Or.inl ⟨hc1, ?_⟩)
        exact ⟨_, (Option.some.inj hB1).symm, Wk.tab ⟨Le.refl _, Le.refl _, Le.refl _, Le.refl _, True.intro⟩ ⟨⟨_, rfl, .refl _⟩, ⟨_, rfl, .refl _⟩, ⟨_, rfl, .refl _⟩, True.intro⟩ rfl⟩
      · refine Ok.exit ?_
        have hB1 := out_ret hB1 hy1
        cases hB1
        exact Wk.tab ⟨Le.refl _, Le.refl _, True.intro⟩ ⟨⟨_, rfl, .refl _⟩, ⟨_, rfl, .refl _⟩, True.intro⟩ rfl
    refine Ok.seq ?_
    refine Ok.region Tryz.tok ?_
    refine ⟨_, rfl, ⟨_, rfl, ?_⟩⟩
    refine Ok.wk (Wk.tab (L := [(2, (.b 2 0)), (3, (vi (0)))]) (H' := [(2, .box [(.s (List.map c_api_Page v1)), (.v (.slice none 0 0)), (vb false)])]) ⟨Le.refl _, Le.refl _, True.intro⟩ ⟨⟨_, rfl, .refl _⟩, True.intro⟩ rfl) ?_
    refine Ok.ret ?_
    cases h
    exact ⟨_, rfl, (Fz.t (.cons (Fz.a (.cons Fz.s (.cons Fz.nil (.cons Fz.v .nil)))) (.cons Fz.v .nil)))⟩

theorem w_ref29_swept {p_d : api_Disk} {p_gone : List Int} {r : api_Disk} (h : ref29_swept p_d p_gone = some r) : Pure Tryz.prog 27 [(.a [(.s (List.map c_api_Page p_d.Synced)), (.s (List.map c_api_Page p_d.Loose)), (vb p_d.Down)]), (.s (List.map Go.Cat.encI p_gone))] (.a [(.s (List.map c_api_Page r.Synced)), (.s (List.map c_api_Page r.Loose)), (vb r.Down)]) := by
  refine pure_of_ok (n := 40) (c := (Tryz.f27.body.getD .skip)) Tryz.tok Tryz.func27 (by kernel_rfl) rfl rfl (Nat.le_of_ble_eq_true rfl) ?_
  unfold ref29_swept at h
  refine Ok.wk (Wk.tab (L := [(0, (.a [(.s (List.map c_api_Page p_d.Synced)), (.s (List.map c_api_Page p_d.Loose)), (vb p_d.Down)])), (1, (.s (List.map Go.Cat.encI p_gone)))]) (H' := []) ⟨Le.refl _, Le.refl _, True.intro⟩ True.intro rfl) ?_
  refine Ok.seq ?_
  refine Ok.region Tryz.tok ?_
  refine Ok.wk (Wk.tab (L := [(1, (.s (List.map Go.Cat.encI p_gone))), (2, (.b 2 0)), (4, (.b 4 0))]) (H' := [(2, .box [(.s (List.map c_api_Page p_d.Synced)), (.s (List.map c_api_Page p_d.Loose)), (vb p_d.Down)]), (4, .box [(.v (.slice none 0 0)), (.v (.slice none 0 0)), (vb false)])]) ⟨Le.refl _, Le.refl _, Le.refl _, True.intro⟩ ⟨⟨_, rfl, .refl _⟩, ⟨_, rfl, .refl _⟩, True.intro⟩ rfl) ?_
  refine Ok.seq ?_
  refine Ok.region Tryz.tok ?_
  obtain ⟨x1, hx1, h⟩ := bindS h
  refine ⟨_, rfl, ?_⟩
  refine CallOk.call (w_ref25_Has hx1) (LeL.refl _) ?_
  refine Ok.wk (Wk.tab (L := [(1, (.s (List.map Go.Cat.encI p_gone))), (2, (.b 2 0)), (4, (.b 4 0)), (5, (.s (List.map Go.Cat.encI x1)))]) (H' := [(2, .box [(.s (List.map c_api_Page p_d.Synced)), (.s (List.map c_api_Page p_d.Loose)), (vb p_d.Down)]), (4, .box [(.v (.slice none 0 0)), (.v (.slice none 0 0)), (vb false)])]) ⟨Le.refl _, Le.refl _, Le.refl _, Le.refl _, True.intro⟩ ⟨⟨_, rfl, .refl _⟩, ⟨_, rfl, .refl _⟩, True.intro⟩ rfl) ?_
  refine Ok.seq ?_
  refine Ok.region Tryz.tok ?_
  refine ⟨_, rfl, ⟨_, rfl, ?_⟩⟩
  refine Ok.wk (Wk.tab (L := [(1, (.s (List.map Go.Cat.encI p_gone))), (4, (.b 4 0)), (5, (.s (List.map Go.Cat.encI x1))), (6, (.b 6 0))]) (H' := [(4, .box [(.v (.slice none 0 0)), (.v (.slice none 0 0)), (vb false)]), (6, .box [(.s (List.map c_api_Page p_d.Synced)), (.s (List.map c_api_Page p_d.Loose)), (vb p_d.Down)])]) ⟨Le.refl _, Le.refl _, Le.refl _, Le.refl _, True.intro⟩ ⟨⟨_, rfl, .refl _⟩, ⟨_, rfl, .refl _⟩, True.intro⟩ rfl) ?_
  refine Ok.seq ?_
  refine Ok.region Tryz.tok ?_
  refine Ok.wk (Wk.tab (L := [(1, (.s (List.map Go.Cat.encI p_gone))), (4, (.b 4 0)), (5, (.s (List.map Go.Cat.encI x1))), (6, (.b 6 0)), (7, (vb false))]) (H' := [(4, .box [(.v (.slice none 0 0)), (.v (.slice none 0 0)), (vb false)]), (6, .box [(.s (List.map c_api_Page p_d.Synced)), (.s (List.map c_api_Page p_d.Loose)), (vb p_d.Down)])]) ⟨Le.refl _, Le.refl _, Le.refl _, Le.refl _, Le.refl _, True.intro⟩ ⟨⟨_, rfl, .refl _⟩, ⟨_, rfl, .refl _⟩, True.intro⟩ rfl) ?_
  obtain ⟨v1, hv1, h⟩ := bindS h
  refine Ok.seqw ⟨Cat.tab [(4, (.b 4 0)), (6, (.b 6 0)), (7, (vb v1.1))], [(4, .box [(.v (.slice none 0 0)), (.v (.slice none 0 0)), (vb false)]), (6, .box [(.s (List.map c_api_Page v1.2.1)), (.s (List.map c_api_Page v1.2.2.1)), (vb v1.2.2.2)])]⟩ ?_ ?_
  · refine Ok.seq ?_
    refine Ok.region Tryz.tok ?_
    refine Ok.wk (Wk.tab (L := [(1, (.s (List.map Go.Cat.encI p_gone))), (4, (.b 4 0)), (5, (.s (List.map Go.Cat.encI x1))), (6, (.b 6 0)), (7, (vb false)), (8, (vi (0)))]) (H' := [(4, .box [(.v (.slice none 0 0)), (.v (.slice none 0 0)), (vb false)]), (6, .box [(.s (List.map c_api_Page p_d.Synced)), (.s (List.map c_api_Page p_d.Loose)), (vb p_d.Down)])]) ⟨Le.refl _, Le.refl _, Le.refl _, Le.refl _, Le.refl _, Le.refl _, True.intro⟩ ⟨⟨_, rfl, .refl _⟩, ⟨_, rfl, .refl _⟩, True.intro⟩ rfl) ?_
    refine Ok.block ?_
    refine Ok.loop (fun (s1 : Bool × Int × (List api_Page) × (List api_Page) × Bool) => ⟨Cat.tab [(1, (.s (List.map Go.Cat.encI p_gone))), (4, (.b 4 0)), (5, (.s (List.map Go.Cat.encI x1))), (6, (.b 6 0)), (7, (vb s1.1)), (8, (vi s1.2.1))], [(4, .box [(.v (.slice none 0 0)), (.v (.slice none 0 0)), (vb false)]), (6, .box [(.s (List.map c_api_Page s1.2.2.1)), (.s (List.map c_api_Page s1.2.2.2.1)), (vb s1.2.2.2.2)])]⟩) (ref29_swept_B1 x1 p_gone) (s0 := (false, 0, p_d.Synced, p_d.Loose, p_d.Down)) hv1 (Wk.tab ⟨Le.refl _, Le.refl _, Le.refl _, Le.refl _, Le.refl _, Le.refl _, True.intro⟩ ⟨⟨_, rfl, .refl _⟩, ⟨_, rfl, .refl _⟩, True.intro⟩ rfl) ?_
    intro s1 y1 hB1 hy1
    unfold ref29_swept_B1 at hB1
    refine Ok.seq ?_
    refine Ok.seq ?_
    refine Ok.region Tryz.tok ?_
    refine ⟨_, List.length_map _, fun _ => ?_⟩
    refine Ok.wk (Wk.tab (L := [(1, (.s (List.map Go.Cat.encI p_gone))), (4, (.b 4 0)), (5, (.s (List.map Go.Cat.encI x1))), (6, (.b 6 0)), (7, (vb s1.1)), (8, (vi s1.2.1)), (15, (vb ((decide (s1.2.1 < (x1.length : Int))))))]) (H' := [(4, .box [(.v (.slice none 0 0)), (.v (.slice none 0 0)), (vb false)]), (6, .box [(.s (List.map c_api_Page s1.2.2.1)), (.s (List.map c_api_Page s1.2.2.2.1)), (vb s1.2.2.2.2)])]) ⟨Le.refl _, Le.refl _, Le.refl _, Le.refl _, Le.refl _, Le.refl _, Le.refl _, True.intro⟩ ⟨⟨_, rfl, .refl _⟩, ⟨_, rfl, .refl _⟩, True.intro⟩ rfl) ?_
    refine Ok.cond (d := 15) (b := (decide (s1.2.1 < (x1.length : Int)))) rfl hB1 (fun hb hB1 => ?_) fun hb hB1 => ?_
    · refine Ok.skip ?_
      obtain ⟨v2, hv2, hB1⟩ := bindS hB1
      refine Ok.seqw ⟨Cat.tab [(1, (.s (List.map Go.Cat.encI p_gone))), (4, (.b 4 0)), (5, (.s (List.map Go.Cat.encI x1))), (6, (.b 6 0)), (7, (vb v2.1)), (8, (vi s1.2.1))], [(4, .box [(.v (.slice none 0 0)), (.v (.slice none 0 0)), (vb false)]), (6, .box [(.s (List.map c_api_Page v2.2.1)), (.s (List.map c_api_Page v2.2.2.1)), (vb v2.2.2.2)])]⟩ ?_ ?_
      · refine Ok.block ?_
        refine Ok.seq ?_
        refine Ok.region Tryz.tok ?_
        obtain ⟨x2, hx2, hv2⟩ := bindS hv2
        obtain ⟨x3, hx3, hv2⟩ := bindS hv2
        refine ⟨_, idx_nat hx2, _, idx_row hx2, ⟨_, rfl, ?_⟩⟩
        refine CallOk.call (w_ref29_Has hx3) (LeL.refl _) ?_
        refine Ok.wk (Wk.tab (L := [(1, (.s (List.map Go.Cat.encI p_gone))), (4, (.b 4 0)), (5, (.s (List.map Go.Cat.encI x1))), (6, (.b 6 0)), (7, (vb s1.1)), (8, (vi s1.2.1)), (23, (vb x3))]) (H' := [(4, .box [(.v (.slice none 0 0)), (.v (.slice none 0 0)), (vb false)]), (6, .box [(.s (List.map c_api_Page s1.2.2.1)), (.s (List.map c_api_Page s1.2.2.2.1)), (vb s1.2.2.2.2)])]) ⟨Le.refl _, Le.refl _, Le.refl _, Le.refl _, Le.refl _, Le.refl _, Le.refl _, True.intro⟩ ⟨⟨_, rfl, .refl _⟩, ⟨_, rfl, .refl _⟩, True.intro⟩ rfl) ?_
        refine Ok.cond (d := 23) (b := x3) rfl hv2 (fun hb hv2 => ?_) fun hb hv2 => ?_
        · refine Ok.seq ?_
          refine Ok.draw2 (m := 9) (late := [8]) (MD := ⟨[]⟩) (CH := ⟨[]⟩) Tryz.tok Tryz.mixed (by kernel_rfl) ?_
          obtain ⟨x4, hx4, hv2⟩ := bindS hv2
          obtain ⟨x5, hx5, hv2⟩ := bindS hv2
          refine ⟨_, ⟨_, rfl, rfl⟩, ⟨_, rfl, ⟨_, rfl, ⟨_, ⟨_, idx_nat hx4, _, idx_row hx4, rfl⟩, ⟨_, ⟨_, rfl, rfl⟩, ⟨_, ⟨_, .of_pure (w_ref25_Lose hx5) (LeL.refl _), rfl⟩, ⟨_, rfl, ⟨_, rfl, ⟨_, rfl, ⟨True.intro, ?_⟩⟩⟩⟩⟩⟩⟩⟩⟩⟩
          refine ⟨_, rfl, ⟨⟨⟨_, rfl, rfl⟩, True.intro⟩, ?_⟩⟩
          refine Ok.wk (Wk.tab (L := [(1, (.s (List.map Go.Cat.encI p_gone))), (4, (.b 4 0)), (5, (.s (List.map Go.Cat.encI x1))), (6, (.b 6 0)), (8, (vi s1.2.1))]) (H' := [(4, .box [(.v (.slice none 0 0)), (.v (.slice none 0 0)), (vb false)]), (6, .box [(.s (List.map c_api_Page x5.1.Synced)), (.s (List.map c_api_Page x5.1.Loose)), (vb x5.1.Down)])]) ⟨Le.refl _, Le.refl _, Le.refl _, Le.refl _, Le.refl _, True.intro⟩ ⟨⟨_, rfl, .refl _⟩, ⟨_, rfl, .refl _⟩, True.intro⟩ rfl) ?_
          refine Ok.region Tryz.tok ?_
          cases hv2
          exact Wk.tab ⟨Le.refl _, Le.refl _, Le.refl _, Le.refl _, Le.refl _, Le.refl _, True.intro⟩ ⟨⟨_, rfl, .refl _⟩, ⟨_, rfl, .refl _⟩, True.intro⟩ rfl
        · refine Ok.skip ?_
          cases hv2
          exact Wk.tab ⟨Le.refl _, Le.refl _, Le.refl _, Le.refl _, Le.refl _, Le.refl _, True.intro⟩ ⟨⟨_, rfl, .refl _⟩, ⟨_, rfl, .refl _⟩, True.intro⟩ rfl
      refine Ok.region Tryz.tok ?_
      obtain ⟨hc1, hB1⟩ := chk_some hB1
      refine (Or.inl ⟨hc1, ?_⟩)
      exact ⟨_, (Option.some.inj hB1).symm, Wk.tab ⟨Le.refl _, Le.refl _, Le.refl _, Le.refl _, Le.refl _, Le.refl _, True.intro⟩ ⟨⟨_, rfl, .refl _⟩, ⟨_, rfl, .refl _⟩, True.intro⟩ rfl⟩
    · refine Ok.exit ?_
      have hB1 := out_ret hB1 hy1
      cases hB1
      exact Wk.tab ⟨Le.refl _, Le.refl _, Le.refl _, True.intro⟩ ⟨⟨_, rfl, .refl _⟩, ⟨_, rfl, .refl _⟩, True.intro⟩ rfl
  obtain ⟨v3, hv3, h⟩ := bindS h
  refine Ok.seqw ⟨Cat.tab [(4, (.b 4 0)), (6, (.b 6 0))], [(4, .box [(.v (.slice none 0 0)), (.v (.slice none 0 0)), (vb false)]), (6, .box [(.s (List.map c_api_Page v3.1)), (.s (List.map c_api_Page v3.2.1)), (vb v3.2.2)])]⟩ ?_ ?_
  · refine Ok.seq ?_
    refine Ok.region Tryz.tok ?_
    refine Ok.wk (Wk.tab (L := [(4, (.b 4 0)), (6, (.b 6 0)), (33, (vb v1.1))]) (H' := [(4, .box [(.v (.slice none 0 0)), (.v (.slice none 0 0)), (vb false)]), (6, .box [(.s (List.map c_api_Page v1.2.1)), (.s (List.map c_api_Page v1.2.2.1)), (vb v1.2.2.2)])]) ⟨Le.refl _, Le.refl _, Le.refl _, True.intro⟩ ⟨⟨_, rfl, .refl _⟩, ⟨_, rfl, .refl _⟩, True.intro⟩ rfl) ?_
    refine Ok.cond (d := 33) (b := v1.1) rfl hv3 (fun hb hv3 => ?_) fun hb hv3 => ?_
    · refine Ok.region Tryz.tok ?_
      obtain ⟨x6, hx6, hv3⟩ := bindS hv3
      refine ⟨_, rfl, ?_⟩
      refine CallOk.call (w_ref04_Sync hx6) (LeL.refl _) ?_
      refine ⟨_, rfl, ?_⟩
      cases hv3
      exact Wk.tab ⟨Le.refl _, Le.refl _, True.intro⟩ ⟨⟨_, rfl, .refl _⟩, ⟨_, rfl, .refl _⟩, True.intro⟩ rfl
    · refine Ok.skip ?_
      cases hv3
      exact Wk.tab ⟨Le.refl _, Le.refl _, True.intro⟩ ⟨⟨_, rfl, .refl _⟩, ⟨_, rfl, .refl _⟩, True.intro⟩ rfl
  refine Ok.seq ?_
  refine Ok.region Tryz.tok ?_
  refine ⟨_, rfl, ⟨_, rfl, ?_⟩⟩
  refine Ok.wk (Wk.tab (L := [(4, (.b 4 0))]) (H' := [(4, .box [(.s (List.map c_api_Page v3.1)), (.s (List.map c_api_Page v3.2.1)), (vb v3.2.2)])]) ⟨Le.refl _, True.intro⟩ ⟨⟨_, rfl, .refl _⟩, True.intro⟩ rfl) ?_
  refine Ok.ret ?_
  cases h
  exact ⟨_, rfl, (Fz.imm rfl)⟩

theorem w_ref29_Sweep {p_named : List api_Named} {p_rooms : List api_Room} {p_leases : List api_Lease} {p_now : Int} {p_disks : List api_Disk} {r : (List api_Disk) × (List api_Room)} (h : ref29_Sweep p_named p_rooms p_leases p_now p_disks = some r) : Pure Tryz.prog 8 [(.s (List.map c_api_Named p_named)), (.s (List.map c_api_Room p_rooms)), (.s (List.map c_api_Lease p_leases)), (vi p_now), (.s (List.map c_api_Disk p_disks))] (.t [(.s (List.map c_api_Disk r.1)), (.s (List.map c_api_Room r.2))]) := by
  refine pure_of_ok (n := 60) (c := (Tryz.f8.body.getD .skip)) Tryz.tok Tryz.func8 (by kernel_rfl) rfl rfl (Nat.le_of_ble_eq_true rfl) ?_
  unfold ref29_Sweep at h
  refine Ok.wk (Wk.tab (L := [(0, (.s (List.map c_api_Named p_named))), (1, (.s (List.map c_api_Room p_rooms))), (2, (.s (List.map c_api_Lease p_leases))), (3, (vi p_now)), (4, (.s (List.map c_api_Disk p_disks)))]) (H' := []) ⟨Le.refl _, Le.refl _, Le.refl _, Le.refl _, Le.refl _, True.intro⟩ True.intro rfl) ?_
  refine Ok.seq ?_
  refine Ok.region Tryz.tok ?_
  refine Ok.wk (Wk.tab (L := [(0, (.s (List.map c_api_Named p_named))), (1, (.s (List.map c_api_Room p_rooms))), (2, (.s (List.map c_api_Lease p_leases))), (3, (vi p_now)), (4, (.s (List.map c_api_Disk p_disks)))]) (H' := []) ⟨Le.refl _, Le.refl _, Le.refl _, Le.refl _, Le.refl _, True.intro⟩ True.intro rfl) ?_
  refine Ok.seq ?_
  refine Ok.region Tryz.tok ?_
  obtain ⟨x1, hx1, h⟩ := bindS h
  refine CallOk.call (w_ref29_Gone hx1) (LeL.refl _) ?_
  refine Ok.wk (Wk.tab (L := [(1, (.s (List.map c_api_Room p_rooms))), (2, (.s (List.map c_api_Lease p_leases))), (3, (vi p_now)), (4, (.s (List.map c_api_Disk p_disks))), (12, (.s (List.map Go.Cat.encI x1)))]) (H' := []) ⟨Le.refl _, Le.refl _, Le.refl _, Le.refl _, Le.refl _, True.intro⟩ True.intro rfl) ?_
  refine Ok.seq ?_
  refine Ok.region Tryz.tok ?_
  refine Ok.wk (Wk.tab (L := [(1, (.s (List.map c_api_Room p_rooms))), (2, (.s (List.map c_api_Lease p_leases))), (3, (vi p_now)), (4, (.s (List.map c_api_Disk p_disks))), (12, (.s (List.map Go.Cat.encI x1))), (13, (.v (.slice none 0 0)))]) (H' := []) ⟨Le.refl _, Le.refl _, Le.refl _, Le.refl _, Le.refl _, Le.refl _, True.intro⟩ True.intro rfl) ?_
  obtain ⟨v1, hv1, h⟩ := bindS h
  refine Ok.seqw ⟨Cat.tab [(1, (.s (List.map c_api_Room p_rooms))), (2, (.s (List.map c_api_Lease p_leases))), (3, (vi p_now)), (13, (.o 37))], [(37, .own 56 3 (List.map c_api_Disk v1))]⟩ ?_ ?_
  · refine Ok.seq ?_
    refine Ok.region Tryz.tok ?_
    refine Ok.wk (Wk.tab (L := [(1, (.s (List.map c_api_Room p_rooms))), (2, (.s (List.map c_api_Lease p_leases))), (3, (vi p_now)), (4, (.s (List.map c_api_Disk p_disks))), (12, (.s (List.map Go.Cat.encI x1))), (13, (.v (.slice none 0 0))), (14, (vi (0)))]) (H' := []) ⟨Le.refl _, Le.refl _, Le.refl _, Le.refl _, Le.refl _, Le.refl _, Le.refl _, True.intro⟩ True.intro rfl) ?_
    refine Ok.block ?_
    refine Ok.loop (fun (s1 : Int × (List api_Disk)) => ⟨Cat.tab [(1, (.s (List.map c_api_Room p_rooms))), (2, (.s (List.map c_api_Lease p_leases))), (3, (vi p_now)), (4, (.s (List.map c_api_Disk p_disks))), (12, (.s (List.map Go.Cat.encI x1))), (13, (.o 37)), (14, (vi s1.1))], [(37, .own 56 3 (List.map c_api_Disk s1.2))]⟩) (ref29_Sweep_B1 p_disks x1) (s0 := (0, [])) hv1 ((Wk.own0 (t := 13) (id := 37) (E := 56) (K := 3) rfl rfl).trans (Wk.tab ⟨Le.refl _, Le.refl _, Le.refl _, Le.refl _, Le.refl _, Le.refl _, Le.refl _, True.intro⟩ ⟨⟨_, rfl, .refl _⟩, True.intro⟩ rfl)) ?_
    intro s1 y1 hB1 hy1
    unfold ref29_Sweep_B1 at hB1
    refine Ok.seq ?_
    refine Ok.seq ?_
    refine Ok.region Tryz.tok ?_
    refine ⟨_, List.length_map _, fun _ => ?_⟩
    refine Ok.wk (Wk.tab (L := [(1, (.s (List.map c_api_Room p_rooms))), (2, (.s (List.map c_api_Lease p_leases))), (3, (vi p_now)), (4, (.s (List.map c_api_Disk p_disks))), (12, (.s (List.map Go.Cat.encI x1))), (13, (.o 37)), (14, (vi s1.1)), (26, (vb ((decide (s1.1 < (p_disks.length : Int))))))]) (H' := [(37, .own 56 3 (List.map c_api_Disk s1.2))]) ⟨Le.refl _, Le.refl _, Le.refl _, Le.refl _, Le.refl _, Le.refl _, Le.refl _, Le.refl _, True.intro⟩ ⟨⟨_, rfl, .refl _⟩, True.intro⟩ rfl) ?_
    refine Ok.cond (d := 26) (b := (decide (s1.1 < (p_disks.length : Int)))) rfl hB1 (fun hb hB1 => ?_) fun hb hB1 => ?_
    · refine Ok.skip ?_
      refine Ok.seq ?_
      refine Ok.block ?_
      refine Ok.region Tryz.tok ?_
      obtain ⟨x2, hx2, hB1⟩ := bindS hB1
      obtain ⟨x3, hx3, hB1⟩ := bindS hB1
      refine ⟨_, idx_nat hx2, _, idx_row hx2, ⟨_, rfl, ?_⟩⟩
      refine CallOk.call (w_ref29_swept hx3) (LeL.refl _) ?_
      obtain ⟨hc1, hB1⟩ := chk_some hB1
      refine Or.inl ⟨rowsLen_map (f := c_api_Disk) (n := 3) (fun _ => rfl) ([x3]), app_b2 (f := c_api_Disk) (l := s1.2) (l' := ([x3])) hc1, _, (List.map_append (f := c_api_Disk) (l₁ := s1.2) (l₂ := ([x3]))).symm, ?_⟩
      refine Ok.wk (Wk.tab (L := [(1, (.s (List.map c_api_Room p_rooms))), (2, (.s (List.map c_api_Lease p_leases))), (3, (vi p_now)), (4, (.s (List.map c_api_Disk p_disks))), (12, (.s (List.map Go.Cat.encI x1))), (13, (.o 37)), (14, (vi s1.1))]) (H' := [(37, .own 56 3 (List.map c_api_Disk ((s1.2 ++ [x3]))))]) ⟨Le.refl _, Le.refl _, Le.refl _, Le.refl _, Le.refl _, Le.refl _, Le.refl _, True.intro⟩ ⟨⟨_, rfl, .refl _⟩, True.intro⟩ rfl) ?_
      refine Ok.region Tryz.tok ?_
      obtain ⟨hc2, hB1⟩ := chk_some hB1
      refine (Or.inl ⟨hc2, ?_⟩)
      exact ⟨_, (Option.some.inj hB1).symm, Wk.tab ⟨Le.refl _, Le.refl _, Le.refl _, Le.refl _, Le.refl _, Le.refl _, Le.refl _, True.intro⟩ ⟨⟨_, rfl, .refl _⟩, True.intro⟩ rfl⟩
    · refine Ok.exit ?_
      have hB1 := out_ret hB1 hy1
      cases hB1
      exact Wk.tab ⟨Le.refl _, Le.refl _, Le.refl _, Le.refl _, True.intro⟩ ⟨⟨_, rfl, .refl _⟩, True.intro⟩ rfl
  refine Ok.seq ?_
  refine Ok.region Tryz.tok ?_
  refine Ok.wk (Wk.tab (L := [(1, (.s (List.map c_api_Room p_rooms))), (2, (.s (List.map c_api_Lease p_leases))), (3, (vi p_now)), (13, (.o 37)), (15, (.v (.slice none 0 0)))]) (H' := [(37, .own 56 3 (List.map c_api_Disk v1))]) ⟨Le.refl _, Le.refl _, Le.refl _, Le.refl _, Le.refl _, True.intro⟩ ⟨⟨_, rfl, .refl _⟩, True.intro⟩ rfl) ?_
  obtain ⟨v2, hv2, h⟩ := bindS h
  refine Ok.seqw ⟨Cat.tab [(13, (.o 37)), (15, (.o 57))], [(37, .own 56 3 (List.map c_api_Disk v1)), (57, .own 42 3 (List.map c_api_Room v2))]⟩ ?_ ?_
  · refine Ok.seq ?_
    refine Ok.region Tryz.tok ?_
    refine Ok.wk (Wk.tab (L := [(1, (.s (List.map c_api_Room p_rooms))), (2, (.s (List.map c_api_Lease p_leases))), (3, (vi p_now)), (13, (.o 37)), (15, (.v (.slice none 0 0))), (16, (vi (0)))]) (H' := [(37, .own 56 3 (List.map c_api_Disk v1))]) ⟨Le.refl _, Le.refl _, Le.refl _, Le.refl _, Le.refl _, Le.refl _, True.intro⟩ ⟨⟨_, rfl, .refl _⟩, True.intro⟩ rfl) ?_
    refine Ok.block ?_
    refine Ok.loop (fun (s2 : Int × (List api_Room)) => ⟨Cat.tab [(1, (.s (List.map c_api_Room p_rooms))), (2, (.s (List.map c_api_Lease p_leases))), (3, (vi p_now)), (13, (.o 37)), (15, (.o 57)), (16, (vi s2.1))], [(37, .own 56 3 (List.map c_api_Disk v1)), (57, .own 42 3 (List.map c_api_Room s2.2))]⟩) (ref29_Sweep_B2 p_rooms p_leases p_now) (s0 := (0, [])) hv2 ((Wk.own0 (t := 15) (id := 57) (E := 42) (K := 3) rfl rfl).trans (Wk.tab ⟨Le.refl _, Le.refl _, Le.refl _, Le.refl _, Le.refl _, Le.refl _, True.intro⟩ ⟨⟨_, rfl, .refl _⟩, ⟨_, rfl, .refl _⟩, True.intro⟩ rfl)) ?_
    intro s2 y2 hB2 hy2
    unfold ref29_Sweep_B2 at hB2
    refine Ok.seq ?_
    refine Ok.seq ?_
    refine Ok.region Tryz.tok ?_
    refine ⟨_, List.length_map _, fun _ => ?_⟩
    refine Ok.wk (Wk.tab (L := [(1, (.s (List.map c_api_Room p_rooms))), (2, (.s (List.map c_api_Lease p_leases))), (3, (vi p_now)), (13, (.o 37)), (15, (.o 57)), (16, (vi s2.1)), (41, (vb ((decide (s2.1 < (p_rooms.length : Int))))))]) (H' := [(37, .own 56 3 (List.map c_api_Disk v1)), (57, .own 42 3 (List.map c_api_Room s2.2))]) ⟨Le.refl _, Le.refl _, Le.refl _, Le.refl _, Le.refl _, Le.refl _, Le.refl _, True.intro⟩ ⟨⟨_, rfl, .refl _⟩, ⟨_, rfl, .refl _⟩, True.intro⟩ rfl) ?_
    refine Ok.cond (d := 41) (b := (decide (s2.1 < (p_rooms.length : Int)))) rfl hB2 (fun hb hB2 => ?_) fun hb hB2 => ?_
    · refine Ok.skip ?_
      obtain ⟨v3, hv3, hB2⟩ := bindS hB2
      refine Ok.seqw ⟨Cat.tab [(1, (.s (List.map c_api_Room p_rooms))), (2, (.s (List.map c_api_Lease p_leases))), (3, (vi p_now)), (13, (.o 37)), (15, (.o 57)), (16, (vi s2.1))], [(37, .own 56 3 (List.map c_api_Disk v1)), (57, .own 42 3 (List.map c_api_Room v3))]⟩ ?_ ?_
      · refine Ok.block ?_
        refine Ok.seq ?_
        refine Ok.region Tryz.tok ?_
        obtain ⟨x4, hx4, hv3⟩ := bindS hv3
        obtain ⟨x5, hx5, hv3⟩ := bindS hv3
        refine ⟨_, idx_nat hx4, _, idx_row hx4, ⟨_, rfl, ?_⟩⟩
        refine CallOk.call (w_ref29_Open hx5) (LeL.refl _) ?_
        refine Ok.wk (Wk.tab (L := [(1, (.s (List.map c_api_Room p_rooms))), (2, (.s (List.map c_api_Lease p_leases))), (3, (vi p_now)), (13, (.o 37)), (15, (.o 57)), (16, (vi s2.1)), (50, (vb x5))]) (H' := [(37, .own 56 3 (List.map c_api_Disk v1)), (57, .own 42 3 (List.map c_api_Room s2.2))]) ⟨Le.refl _, Le.refl _, Le.refl _, Le.refl _, Le.refl _, Le.refl _, Le.refl _, True.intro⟩ ⟨⟨_, rfl, .refl _⟩, ⟨_, rfl, .refl _⟩, True.intro⟩ rfl) ?_
        refine Ok.cond (d := 50) (b := x5) rfl hv3 (fun hb hv3 => ?_) fun hb hv3 => ?_
        · refine Ok.region Tryz.tok ?_
          obtain ⟨x6, hx6, hv3⟩ := bindS hv3
          obtain ⟨hc3, hv3⟩ := chk_some hv3
          refine ⟨_, idx_nat hx6, _, idx_row hx6, ⟨_, rfl, Or.inl ⟨rowsLen_map (f := c_api_Room) (n := 3) (fun _ => rfl) ([x6]), app_b2 (f := c_api_Room) (l := s2.2) (l' := ([x6])) hc3, _, (List.map_append (f := c_api_Room) (l₁ := s2.2) (l₂ := ([x6]))).symm, ?_⟩⟩⟩
          cases hv3
          exact Wk.tab ⟨Le.refl _, Le.refl _, Le.refl _, Le.refl _, Le.refl _, Le.refl _, True.intro⟩ ⟨⟨_, rfl, .refl _⟩, ⟨_, rfl, .refl _⟩, True.intro⟩ rfl
        · refine Ok.skip ?_
          cases hv3
          exact Wk.tab ⟨Le.refl _, Le.refl _, Le.refl _, Le.refl _, Le.refl _, Le.refl _, True.intro⟩ ⟨⟨_, rfl, .refl _⟩, ⟨_, rfl, .refl _⟩, True.intro⟩ rfl
      refine Ok.region Tryz.tok ?_
      obtain ⟨hc4, hB2⟩ := chk_some hB2
      refine (Or.inl ⟨hc4, ?_⟩)
      exact ⟨_, (Option.some.inj hB2).symm, Wk.tab ⟨Le.refl _, Le.refl _, Le.refl _, Le.refl _, Le.refl _, Le.refl _, True.intro⟩ ⟨⟨_, rfl, .refl _⟩, ⟨_, rfl, .refl _⟩, True.intro⟩ rfl⟩
    · refine Ok.exit ?_
      have hB2 := out_ret hB2 hy2
      cases hB2
      exact Wk.tab ⟨Le.refl _, Le.refl _, True.intro⟩ ⟨⟨_, rfl, .refl _⟩, ⟨_, rfl, .refl _⟩, True.intro⟩ rfl
  refine Ok.seq ?_
  refine Ok.region Tryz.tok ?_
  refine Ok.wk (Wk.tab (L := [(10, (.o 37)), (11, (.o 57))]) (H' := [(37, .own 56 3 (List.map c_api_Disk v1)), (57, .own 42 3 (List.map c_api_Room v2))]) ⟨Le.refl _, Le.refl _, True.intro⟩ ⟨⟨_, rfl, .refl _⟩, ⟨_, rfl, .refl _⟩, True.intro⟩ rfl) ?_
  refine Ok.ret ?_
  cases h
  exact (Fz.t (.cons (Fz.o rfl) (.cons (Fz.o rfl) .nil)))

theorem w_ref02_Bytes {p_a : List UInt8} {p_b : List UInt8} {r : Bool} (h : ref02_Bytes p_a p_b = some r) : Pure Tryz.prog 41 [(.s (List.map cU8 p_a)), (.s (List.map cU8 p_b))] (vb r) := by
  refine pure_of_ok (n := 26) (c := (Tryz.f41.body.getD .skip)) Tryz.tok Tryz.func41 (by kernel_rfl) rfl rfl (Nat.le_of_ble_eq_true rfl) ?_
  unfold ref02_Bytes at h
  refine Ok.wk (Wk.tab (L := [(0, (.s (List.map cU8 p_a))), (1, (.s (List.map cU8 p_b)))]) (H' := []) ⟨Le.refl _, Le.refl _, True.intro⟩ True.intro rfl) ?_
  refine Ok.seq ?_
  refine Ok.region Tryz.tok ?_
  refine Ok.wk (Wk.tab (L := [(0, (.s (List.map cU8 p_a))), (1, (.s (List.map cU8 p_b)))]) (H' := []) ⟨Le.refl _, Le.refl _, True.intro⟩ True.intro rfl) ?_
  refine Ok.seq ?_
  refine Ok.seq ?_
  refine Ok.region Tryz.tok ?_
  refine ⟨_, List.length_map _, fun _ => ⟨_, List.length_map _, fun _ => ?_⟩⟩
  refine Ok.wk (Wk.tab (L := [(0, (.s (List.map cU8 p_a))), (1, (.s (List.map cU8 p_b))), (10, (vb (((p_a.length : Int) != (p_b.length : Int)))))]) (H' := []) ⟨Le.refl _, Le.refl _, Le.refl _, True.intro⟩ True.intro rfl) ?_
  refine Ok.cond (d := 10) (b := ((p_a.length : Int) != (p_b.length : Int))) rfl h (fun hb h => ?_) fun hb h => ?_
  · refine Ok.seq ?_
    refine Ok.region Tryz.tok ?_
    refine Ok.wk (Wk.tab (L := [(4, (vb false))]) (H' := []) ⟨Le.refl _, True.intro⟩ True.intro rfl) ?_
    refine Ok.ret ?_
    cases h
    exact Fz.v
  · refine Ok.skip ?_
    refine Ok.seqj (fun v1 => ⟨Cat.tab [], []⟩) (fun v1 => ref02_Bytes_J1 v1 = some r) ?_ ?_
    · refine Ok.seq ?_
      refine Ok.region Tryz.tok ?_
      refine Ok.wk (Wk.tab (L := [(0, (.s (List.map cU8 p_a))), (1, (.s (List.map cU8 p_b))), (5, (vi (0)))]) (H' := []) ⟨Le.refl _, Le.refl _, Le.refl _, True.intro⟩ True.intro rfl) ?_
      refine Ok.block ?_
      refine Ok.loop (fun (s1 : Int) => ⟨Cat.tab [(0, (.s (List.map cU8 p_a))), (1, (.s (List.map cU8 p_b))), (5, (vi s1))], []⟩) (ref02_Bytes_B1 p_a p_b) (s0 := 0) h (Wk.tab ⟨Le.refl _, Le.refl _, Le.refl _, True.intro⟩ True.intro rfl) ?_
      intro s1 y1 hB1 hy1
      unfold ref02_Bytes_B1 at hB1
      refine Ok.seq ?_
      refine Ok.seq ?_
      refine Ok.region Tryz.tok ?_
      refine ⟨_, List.length_map _, fun _ => ?_⟩
      refine Ok.wk (Wk.tab (L := [(0, (.s (List.map cU8 p_a))), (1, (.s (List.map cU8 p_b))), (5, (vi s1)), (14, (vb ((decide (s1 < (p_a.length : Int))))))]) (H' := []) ⟨Le.refl _, Le.refl _, Le.refl _, Le.refl _, True.intro⟩ True.intro rfl) ?_
      refine Ok.cond (d := 14) (b := (decide (s1 < (p_a.length : Int)))) rfl hB1 (fun hb hB1 => ?_) fun hb hB1 => ?_
      · refine Ok.skip ?_
        refine Ok.seq ?_
        refine Ok.block ?_
        refine Ok.seq ?_
        refine Ok.draw (m := 9) (MD := ⟨[]⟩) (CH := ⟨[]⟩) Tryz.tok Tryz.mixed (by kernel_rfl) ?_
        obtain ⟨x1, hx1, hB1⟩ := bindS hB1
        obtain ⟨x2, hx2, hB1⟩ := bindS hB1
        refine ⟨_, rfl, ⟨_, rfl, ⟨_, ⟨_, idx_nat hx1, _, idx_row hx1, rfl⟩, ⟨_, ⟨_, rfl, rfl⟩, ⟨_, rfl, ⟨_, rfl, ⟨_, ⟨_, idx_nat hx2, _, idx_row hx2, rfl⟩, ⟨_, ⟨_, rfl, rfl⟩, ⟨_, rfl, ⟨True.intro, ?_⟩⟩⟩⟩⟩⟩⟩⟩⟩⟩
        refine Ok.wk (Wk.tab (L := [(0, (.s (List.map cU8 p_a))), (1, (.s (List.map cU8 p_b))), (5, (vi s1)), (25, (vb (((x1.toNat : Int) != (x2.toNat : Int)))))]) (H' := []) ⟨Le.refl _, Le.refl _, Le.refl _, Le.refl _, True.intro⟩ True.intro rfl) ?_
        refine Ok.cond (d := 25) (b := ((x1.toNat : Int) != (x2.toNat : Int))) rfl hB1 (fun hb hB1 => ?_) fun hb hB1 => ?_
        · refine Ok.seq ?_
          refine Ok.region Tryz.tok ?_
          refine Ok.wk (Wk.tab (L := [(4, (vb false))]) (H' := []) ⟨Le.refl _, True.intro⟩ True.intro rfl) ?_
          refine Ok.ret ?_
          have hB1 := out_ret hB1 hy1
          cases hB1
          exact Fz.v
        · refine Ok.skip ?_
          refine Ok.region Tryz.tok ?_
          obtain ⟨hc1, hB1⟩ := chk_some hB1
          refine (Or.inl ⟨hc1, ?_⟩)
          exact ⟨_, (Option.some.inj hB1).symm, Wk.tab ⟨Le.refl _, Le.refl _, Le.refl _, True.intro⟩ True.intro rfl⟩
      · refine Ok.exit ?_
        have hB1 := out_ret hB1 hy1
        exact ⟨_, hB1, Wk.tab True.intro True.intro rfl⟩
    intro v1 h
    unfold ref02_Bytes_J1 at h
    refine Ok.seq ?_
    refine Ok.region Tryz.tok ?_
    refine Ok.wk (Wk.tab (L := [(4, (vb true))]) (H' := []) ⟨Le.refl _, True.intro⟩ True.intro rfl) ?_
    refine Ok.ret ?_
    cases h
    exact Fz.v

theorem w_ref25_pages {p_a : List api_Page} {p_b : List api_Page} {r : Bool} (h : ref25_pages p_a p_b = some r) : Pure Tryz.prog 58 [(.s (List.map c_api_Page p_a)), (.s (List.map c_api_Page p_b))] (vb r) := by
  refine pure_of_ok (n := 42) (c := (Tryz.f58.body.getD .skip)) Tryz.tok Tryz.func58 (by kernel_rfl) rfl rfl (Nat.le_of_ble_eq_true rfl) ?_
  unfold ref25_pages at h
  refine Ok.wk (Wk.tab (L := [(0, (.s (List.map c_api_Page p_a))), (1, (.s (List.map c_api_Page p_b)))]) (H' := []) ⟨Le.refl _, Le.refl _, True.intro⟩ True.intro rfl) ?_
  refine Ok.seq ?_
  refine Ok.region Tryz.tok ?_
  refine Ok.wk (Wk.tab (L := [(0, (.s (List.map c_api_Page p_a))), (1, (.s (List.map c_api_Page p_b)))]) (H' := []) ⟨Le.refl _, Le.refl _, True.intro⟩ True.intro rfl) ?_
  refine Ok.seq ?_
  refine Ok.seq ?_
  refine Ok.region Tryz.tok ?_
  refine ⟨_, List.length_map _, fun _ => ⟨_, List.length_map _, fun _ => ?_⟩⟩
  refine Ok.wk (Wk.tab (L := [(0, (.s (List.map c_api_Page p_a))), (1, (.s (List.map c_api_Page p_b))), (10, (vb (((p_a.length : Int) != (p_b.length : Int)))))]) (H' := []) ⟨Le.refl _, Le.refl _, Le.refl _, True.intro⟩ True.intro rfl) ?_
  refine Ok.cond (d := 10) (b := ((p_a.length : Int) != (p_b.length : Int))) rfl h (fun hb h => ?_) fun hb h => ?_
  · refine Ok.seq ?_
    refine Ok.region Tryz.tok ?_
    refine Ok.wk (Wk.tab (L := [(4, (vb false))]) (H' := []) ⟨Le.refl _, True.intro⟩ True.intro rfl) ?_
    refine Ok.ret ?_
    cases h
    exact Fz.v
  · refine Ok.skip ?_
    refine Ok.seqj (fun v1 => ⟨Cat.tab [], []⟩) (fun v1 => ref25_pages_J1 v1 = some r) ?_ ?_
    · refine Ok.seq ?_
      refine Ok.region Tryz.tok ?_
      refine Ok.wk (Wk.tab (L := [(0, (.s (List.map c_api_Page p_a))), (1, (.s (List.map c_api_Page p_b))), (5, (vi (0)))]) (H' := []) ⟨Le.refl _, Le.refl _, Le.refl _, True.intro⟩ True.intro rfl) ?_
      refine Ok.block ?_
      refine Ok.loop (fun (s1 : Int) => ⟨Cat.tab [(0, (.s (List.map c_api_Page p_a))), (1, (.s (List.map c_api_Page p_b))), (5, (vi s1))], []⟩) (ref25_pages_B1 p_a p_b) (s0 := 0) h (Wk.tab ⟨Le.refl _, Le.refl _, Le.refl _, True.intro⟩ True.intro rfl) ?_
      intro s1 y1 hB1 hy1
      unfold ref25_pages_B1 at hB1
      refine Ok.seq ?_
      refine Ok.seq ?_
      refine Ok.region Tryz.tok ?_
      refine ⟨_, List.length_map _, fun _ => ?_⟩
      refine Ok.wk (Wk.tab (L := [(0, (.s (List.map c_api_Page p_a))), (1, (.s (List.map c_api_Page p_b))), (5, (vi s1)), (14, (vb ((decide (s1 < (p_a.length : Int))))))]) (H' := []) ⟨Le.refl _, Le.refl _, Le.refl _, Le.refl _, True.intro⟩ True.intro rfl) ?_
      refine Ok.cond (d := 14) (b := (decide (s1 < (p_a.length : Int)))) rfl hB1 (fun hb hB1 => ?_) fun hb hB1 => ?_
      · refine Ok.skip ?_
        refine Ok.seq ?_
        refine Ok.block ?_
        obtain ⟨v2, hv2, hB1⟩ := bindS hB1
        refine Ok.seqw ⟨Cat.tab [(0, (.s (List.map c_api_Page p_a))), (1, (.s (List.map c_api_Page p_b))), (5, (vi s1)), (41, (vb v2))], []⟩ ?_ ?_
        · refine Ok.draw (m := 25) (MD := ⟨[]⟩) (CH := ⟨[]⟩) Tryz.tok Tryz.mixed (by kernel_rfl) ?_
          obtain ⟨x1, hx1, hv2⟩ := bindS hv2
          obtain ⟨x2, hx2, hv2⟩ := bindS hv2
          refine ⟨_, rfl, ⟨_, rfl, ⟨_, ⟨_, idx_nat hx1, _, idx_row hx1, rfl⟩, ⟨_, rfl, ⟨_, ⟨_, rfl, rfl⟩, ⟨_, rfl, ⟨_, rfl, ⟨_, ⟨_, idx_nat hx2, _, idx_row hx2, rfl⟩, ⟨_, rfl, ⟨_, ⟨_, rfl, rfl⟩, ⟨_, rfl, ⟨_, rfl, ?_⟩⟩⟩⟩⟩⟩⟩⟩⟩⟩⟩⟩
          obtain ⟨c1, hg1, hv2⟩ := bindS hv2
          refine Br.itf hg1 (fun hb hg1 => ?_) fun hb hg1 => ?_
          · cases hg1
            refine ⟨_, rfl, ?_⟩
            refine ⟨True.intro, ?_⟩
            cases hv2
            exact Wk.tab ⟨Le.refl _, Le.refl _, Le.refl _, Le.refl _, True.intro⟩ True.intro rfl
          · obtain ⟨x3, hx3, hg1⟩ := bindS hg1
            obtain ⟨x4, hx4, hg1⟩ := bindS hg1
            obtain ⟨x5, hx5, hg1⟩ := bindS hg1
            refine ⟨_, rfl, ⟨_, rfl, ⟨_, ⟨_, idx_nat hx3, _, idx_row hx3, rfl⟩, ⟨_, rfl, ⟨_, ⟨_, rfl, rfl⟩, ⟨_, rfl, ⟨_, rfl, ⟨_, ⟨_, idx_nat hx4, _, idx_row hx4, rfl⟩, ⟨_, rfl, ⟨_, ⟨_, rfl, rfl⟩, ⟨_, ⟨_, .of_pure (w_ref02_Bytes hx5) (LeL.refl _), rfl⟩, ⟨_, rfl, ?_⟩⟩⟩⟩⟩⟩⟩⟩⟩⟩⟩⟩
            cases hg1
            refine ⟨_, rfl, ?_⟩
            refine ⟨True.intro, ?_⟩
            cases hv2
            exact Wk.tab ⟨Le.refl _, Le.refl _, Le.refl _, Le.refl _, True.intro⟩ True.intro rfl
        refine Ok.cond (d := 41) (b := v2) rfl hB1 (fun hb hB1 => ?_) fun hb hB1 => ?_
        · refine Ok.seq ?_
          refine Ok.region Tryz.tok ?_
          refine Ok.wk (Wk.tab (L := [(4, (vb false))]) (H' := []) ⟨Le.refl _, True.intro⟩ True.intro rfl) ?_
          refine Ok.ret ?_
          have hB1 := out_ret hB1 hy1
          cases hB1
          exact Fz.v
        · refine Ok.skip ?_
          refine Ok.region Tryz.tok ?_
          obtain ⟨hc1, hB1⟩ := chk_some hB1
          refine (Or.inl ⟨hc1, ?_⟩)
          exact ⟨_, (Option.some.inj hB1).symm, Wk.tab ⟨Le.refl _, Le.refl _, Le.refl _, True.intro⟩ True.intro rfl⟩
      · refine Ok.exit ?_
        have hB1 := out_ret hB1 hy1
        exact ⟨_, hB1, Wk.tab True.intro True.intro rfl⟩
    intro v1 h
    unfold ref25_pages_J1 at h
    refine Ok.seq ?_
    refine Ok.region Tryz.tok ?_
    refine Ok.wk (Wk.tab (L := [(4, (vb true))]) (H' := []) ⟨Le.refl _, True.intro⟩ True.intro rfl) ?_
    refine Ok.ret ?_
    cases h
    exact Fz.v

theorem w_ref25_SameDisk {p_a : api_Disk} {p_b : api_Disk} {r : Bool} (h : ref25_SameDisk p_a p_b = some r) : Pure Tryz.prog 35 [(.a [(.s (List.map c_api_Page p_a.Synced)), (.s (List.map c_api_Page p_a.Loose)), (vb p_a.Down)]), (.a [(.s (List.map c_api_Page p_b.Synced)), (.s (List.map c_api_Page p_b.Loose)), (vb p_b.Down)])] (vb r) := by
  refine pure_of_ok (n := 24) (c := (Tryz.f35.body.getD .skip)) Tryz.tok Tryz.func35 (by kernel_rfl) rfl rfl (Nat.le_of_ble_eq_true rfl) ?_
  unfold ref25_SameDisk at h
  refine Ok.wk (Wk.tab (L := [(0, (.a [(.s (List.map c_api_Page p_a.Synced)), (.s (List.map c_api_Page p_a.Loose)), (vb p_a.Down)])), (1, (.a [(.s (List.map c_api_Page p_b.Synced)), (.s (List.map c_api_Page p_b.Loose)), (vb p_b.Down)]))]) (H' := []) ⟨Le.refl _, Le.refl _, True.intro⟩ True.intro rfl) ?_
  refine Ok.seq ?_
  refine Ok.region Tryz.tok ?_
  refine Ok.wk (Wk.tab (L := [(2, (.b 2 0)), (3, (.b 3 0))]) (H' := [(2, .box [(.s (List.map c_api_Page p_a.Synced)), (.s (List.map c_api_Page p_a.Loose)), (vb p_a.Down)]), (3, .box [(.s (List.map c_api_Page p_b.Synced)), (.s (List.map c_api_Page p_b.Loose)), (vb p_b.Down)])]) ⟨Le.refl _, Le.refl _, True.intro⟩ ⟨⟨_, rfl, .refl _⟩, ⟨_, rfl, .refl _⟩, True.intro⟩ rfl) ?_
  obtain ⟨v1, hv1, h⟩ := bindS h
  refine Ok.seqw ⟨Cat.tab [(4, (vb v1))], []⟩ ?_ ?_
  · refine Ok.region Tryz.tok ?_
    obtain ⟨x1, hx1, hv1⟩ := bindS hv1
    refine ⟨_, rfl, ⟨_, rfl, ?_⟩⟩
    refine CallOk.call (w_ref25_pages hx1) (LeL.refl _) ?_
    obtain ⟨c1, hg1, hv1⟩ := bindS hv1
    refine Br.ite hg1 (fun hb hg1 => ?_) fun hb hg1 => ?_
    · obtain ⟨x2, hx2, hg1⟩ := bindS hg1
      refine ⟨_, rfl, ⟨_, rfl, ?_⟩⟩
      refine CallOk.call (w_ref25_pages hx2) (LeL.refl _) ?_
      cases hg1
      obtain ⟨c2, hg2, hv1⟩ := bindS hv1
      refine Br.ite hg2 (fun hb hg2 => ?_) fun hb hg2 => ?_
      · refine ⟨_, rfl, ⟨_, rfl, ?_⟩⟩
        cases hg2
        cases hv1
        exact Wk.tab ⟨Le.refl _, True.intro⟩ True.intro rfl
      · cases hg2
        cases hv1
        exact Wk.tab ⟨Le.refl _, True.intro⟩ True.intro rfl
    · cases hg1
      obtain ⟨c2, hg3, hv1⟩ := bindS hv1
      replace hg3 := iteF hg3
      cases hg3
      cases hv1
      exact Wk.tab ⟨Le.refl _, True.intro⟩ True.intro rfl
  refine Ok.ret ?_
  cases h
  exact Fz.v

theorem w_ref27_SameDisks {p_a : List api_Disk} {p_b : List api_Disk} {r : Bool} (h : ref27_SameDisks p_a p_b = some r) : Pure Tryz.prog 14 [(.s (List.map c_api_Disk p_a)), (.s (List.map c_api_Disk p_b))] (vb r) := by
  refine pure_of_ok (n := 27) (c := (Tryz.f14.body.getD .skip)) Tryz.tok Tryz.func14 (by kernel_rfl) rfl rfl (Nat.le_of_ble_eq_true rfl) ?_
  unfold ref27_SameDisks at h
  refine Ok.wk (Wk.tab (L := [(0, (.s (List.map c_api_Disk p_a))), (1, (.s (List.map c_api_Disk p_b)))]) (H' := []) ⟨Le.refl _, Le.refl _, True.intro⟩ True.intro rfl) ?_
  refine Ok.seq ?_
  refine Ok.region Tryz.tok ?_
  refine Ok.wk (Wk.tab (L := [(0, (.s (List.map c_api_Disk p_a))), (1, (.s (List.map c_api_Disk p_b)))]) (H' := []) ⟨Le.refl _, Le.refl _, True.intro⟩ True.intro rfl) ?_
  refine Ok.seq ?_
  refine Ok.seq ?_
  refine Ok.region Tryz.tok ?_
  refine ⟨_, List.length_map _, fun _ => ⟨_, List.length_map _, fun _ => ?_⟩⟩
  refine Ok.wk (Wk.tab (L := [(0, (.s (List.map c_api_Disk p_a))), (1, (.s (List.map c_api_Disk p_b))), (10, (vb (((p_a.length : Int) != (p_b.length : Int)))))]) (H' := []) ⟨Le.refl _, Le.refl _, Le.refl _, True.intro⟩ True.intro rfl) ?_
  refine Ok.cond (d := 10) (b := ((p_a.length : Int) != (p_b.length : Int))) rfl h (fun hb h => ?_) fun hb h => ?_
  · refine Ok.seq ?_
    refine Ok.region Tryz.tok ?_
    refine Ok.wk (Wk.tab (L := [(4, (vb false))]) (H' := []) ⟨Le.refl _, True.intro⟩ True.intro rfl) ?_
    refine Ok.ret ?_
    cases h
    exact Fz.v
  · refine Ok.skip ?_
    refine Ok.seqj (fun v1 => ⟨Cat.tab [], []⟩) (fun v1 => ref27_SameDisks_J1 v1 = some r) ?_ ?_
    · refine Ok.seq ?_
      refine Ok.region Tryz.tok ?_
      refine Ok.wk (Wk.tab (L := [(0, (.s (List.map c_api_Disk p_a))), (1, (.s (List.map c_api_Disk p_b))), (5, (vi (0)))]) (H' := []) ⟨Le.refl _, Le.refl _, Le.refl _, True.intro⟩ True.intro rfl) ?_
      refine Ok.block ?_
      refine Ok.loop (fun (s1 : Int) => ⟨Cat.tab [(0, (.s (List.map c_api_Disk p_a))), (1, (.s (List.map c_api_Disk p_b))), (5, (vi s1))], []⟩) (ref27_SameDisks_B1 p_a p_b) (s0 := 0) h (Wk.tab ⟨Le.refl _, Le.refl _, Le.refl _, True.intro⟩ True.intro rfl) ?_
      intro s1 y1 hB1 hy1
      unfold ref27_SameDisks_B1 at hB1
      refine Ok.seq ?_
      refine Ok.seq ?_
      refine Ok.region Tryz.tok ?_
      refine ⟨_, List.length_map _, fun _ => ?_⟩
      refine Ok.wk (Wk.tab (L := [(0, (.s (List.map c_api_Disk p_a))), (1, (.s (List.map c_api_Disk p_b))), (5, (vi s1)), (14, (vb ((decide (s1 < (p_a.length : Int))))))]) (H' := []) ⟨Le.refl _, Le.refl _, Le.refl _, Le.refl _, True.intro⟩ True.intro rfl) ?_
      refine Ok.cond (d := 14) (b := (decide (s1 < (p_a.length : Int)))) rfl hB1 (fun hb hB1 => ?_) fun hb hB1 => ?_
      · refine Ok.skip ?_
        refine Ok.seq ?_
        refine Ok.block ?_
        refine Ok.seq ?_
        refine Ok.draw (m := 10) (MD := ⟨[]⟩) (CH := ⟨[]⟩) Tryz.tok Tryz.mixed (by kernel_rfl) ?_
        obtain ⟨x1, hx1, hB1⟩ := bindS hB1
        obtain ⟨x2, hx2, hB1⟩ := bindS hB1
        obtain ⟨x3, hx3, hB1⟩ := bindS hB1
        refine ⟨_, rfl, ⟨_, rfl, ⟨_, ⟨_, idx_nat hx1, _, idx_row hx1, rfl⟩, ⟨_, ⟨_, rfl, rfl⟩, ⟨_, rfl, ⟨_, rfl, ⟨_, ⟨_, idx_nat hx2, _, idx_row hx2, rfl⟩, ⟨_, ⟨_, rfl, rfl⟩, ⟨_, ⟨_, .of_pure (w_ref25_SameDisk hx3) (LeL.refl _), rfl⟩, ⟨_, rfl, ⟨True.intro, ?_⟩⟩⟩⟩⟩⟩⟩⟩⟩⟩⟩
        refine Ok.wk (Wk.tab (L := [(0, (.s (List.map c_api_Disk p_a))), (1, (.s (List.map c_api_Disk p_b))), (5, (vi s1)), (26, (vb ((!x3))))]) (H' := []) ⟨Le.refl _, Le.refl _, Le.refl _, Le.refl _, True.intro⟩ True.intro rfl) ?_
        refine Ok.cond (d := 26) (b := (!x3)) rfl hB1 (fun hb hB1 => ?_) fun hb hB1 => ?_
        · refine Ok.seq ?_
          refine Ok.region Tryz.tok ?_
          refine Ok.wk (Wk.tab (L := [(4, (vb false))]) (H' := []) ⟨Le.refl _, True.intro⟩ True.intro rfl) ?_
          refine Ok.ret ?_
          have hB1 := out_ret hB1 hy1
          cases hB1
          exact Fz.v
        · refine Ok.skip ?_
          refine Ok.region Tryz.tok ?_
          obtain ⟨hc1, hB1⟩ := chk_some hB1
          refine (Or.inl ⟨hc1, ?_⟩)
          exact ⟨_, (Option.some.inj hB1).symm, Wk.tab ⟨Le.refl _, Le.refl _, Le.refl _, True.intro⟩ True.intro rfl⟩
      · refine Ok.exit ?_
        have hB1 := out_ret hB1 hy1
        exact ⟨_, hB1, Wk.tab True.intro True.intro rfl⟩
    intro v1 h
    unfold ref27_SameDisks_J1 at h
    refine Ok.seq ?_
    refine Ok.region Tryz.tok ?_
    refine Ok.wk (Wk.tab (L := [(4, (vb true))]) (H' := []) ⟨Le.refl _, True.intro⟩ True.intro rfl) ?_
    refine Ok.ret ?_
    cases h
    exact Fz.v
end Go.Proofs
