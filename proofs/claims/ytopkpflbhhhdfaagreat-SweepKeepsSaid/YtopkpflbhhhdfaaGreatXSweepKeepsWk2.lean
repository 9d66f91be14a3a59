/- The walks of this seat beside the plain programs, part 2. No condition. -/
import Derived.Test.YtopkpflbhhhdfaaGreatXSweepKeepsEn
import Derived.Test.YtopkpflbhhhdfaaGreatXSweepKeepsWk0
import Derived.Test.YtopkpflbhhhdfaaGreatXSweepKeepsWk1
namespace Go.Proofs
set_option linter.all false
open Go Go.Cat
variable [M : Mono]
set_option maxRecDepth 100000

theorem w_ref04_Right {p_d : api_Disk} {r : Bool} (h : ref04_Right p_d = some r) : Pure Tryz.prog 76 [(.a [(.s (List.map c_api_Page p_d.Synced)), (.s (List.map c_api_Page p_d.Loose)), (vb p_d.Down)])] (vb r) := by
  refine pure_of_ok (n := 66) (c := (Tryz.f76.body.getD .skip)) Tryz.tok Tryz.func76 (by kernel_rfl) rfl rfl (Nat.le_of_ble_eq_true rfl) ?_
  unfold ref04_Right at h
  refine Ok.wk (Wk.tab (L := [(0, (.a [(.s (List.map c_api_Page p_d.Synced)), (.s (List.map c_api_Page p_d.Loose)), (vb p_d.Down)]))]) (H' := []) ⟨Le.refl _, True.intro⟩ True.intro rfl) ?_
  refine Ok.seq ?_
  refine Ok.region Tryz.tok ?_
  refine Ok.wk (Wk.tab (L := [(1, (.b 1 0))]) (H' := [(1, .box [(.s (List.map c_api_Page p_d.Synced)), (.s (List.map c_api_Page p_d.Loose)), (vb p_d.Down)])]) ⟨Le.refl _, True.intro⟩ ⟨⟨_, rfl, .refl _⟩, True.intro⟩ rfl) ?_
  refine Ok.seqj (fun v1 => ⟨Cat.tab [(1, (.b 1 0))], [(1, .box [(.s (List.map c_api_Page p_d.Synced)), (.s (List.map c_api_Page p_d.Loose)), (vb p_d.Down)])]⟩) (fun v1 => ref04_Right_J1 p_d v1 = some r) ?_ ?_
  · refine Ok.seq ?_
    refine Ok.region Tryz.tok ?_
    refine Ok.wk (Wk.tab (L := [(1, (.b 1 0)), (3, (vi (0)))]) (H' := [(1, .box [(.s (List.map c_api_Page p_d.Synced)), (.s (List.map c_api_Page p_d.Loose)), (vb p_d.Down)])]) ⟨Le.refl _, Le.refl _, True.intro⟩ ⟨⟨_, rfl, .refl _⟩, True.intro⟩ rfl) ?_
    refine Ok.block ?_
    refine Ok.loop (fun (s1 : Int) => ⟨Cat.tab [(1, (.b 1 0)), (3, (vi s1))], [(1, .box [(.s (List.map c_api_Page p_d.Synced)), (.s (List.map c_api_Page p_d.Loose)), (vb p_d.Down)])]⟩) (ref04_Right_B1 p_d) (s0 := 0) h (Wk.tab ⟨Le.refl _, Le.refl _, True.intro⟩ ⟨⟨_, rfl, .refl _⟩, True.intro⟩ rfl) ?_
    intro s1 y1 hB1 hy1
    unfold ref04_Right_B1 at hB1
    refine Ok.seq ?_
    refine Ok.seq ?_
    refine Ok.region Tryz.tok ?_
    refine ⟨_, rfl, ⟨_, List.length_map _, fun _ => ?_⟩⟩
    refine Ok.wk (Wk.tab (L := [(1, (.b 1 0)), (3, (vi s1)), (11, (vb ((decide (s1 < (p_d.Synced.length : Int))))))]) (H' := [(1, .box [(.s (List.map c_api_Page p_d.Synced)), (.s (List.map c_api_Page p_d.Loose)), (vb p_d.Down)])]) ⟨Le.refl _, Le.refl _, Le.refl _, True.intro⟩ ⟨⟨_, rfl, .refl _⟩, True.intro⟩ rfl) ?_
    refine Ok.cond (d := 11) (b := (decide (s1 < (p_d.Synced.length : Int)))) rfl hB1 (fun hb hB1 => ?_) fun hb hB1 => ?_
    · refine Ok.skip ?_
      refine Ok.seq ?_
      refine Ok.block ?_
      refine Ok.seq ?_
      refine Ok.region Tryz.tok ?_
      obtain ⟨x1, hx1, hB1⟩ := bindS hB1
      obtain ⟨x2, hx2, hB1⟩ := bindS hB1
      refine ⟨_, rfl, ⟨_, idx_nat hx1, _, idx_row hx1, ⟨_, rfl, ?_⟩⟩⟩
      refine CallOk.call (w_ref04_Page hx2) (LeL.refl _) ?_
      refine Ok.wk (Wk.tab (L := [(1, (.b 1 0)), (3, (vi s1)), (4, (vb x2))]) (H' := [(1, .box [(.s (List.map c_api_Page p_d.Synced)), (.s (List.map c_api_Page p_d.Loose)), (vb p_d.Down)])]) ⟨Le.refl _, Le.refl _, Le.refl _, True.intro⟩ ⟨⟨_, rfl, .refl _⟩, True.intro⟩ rfl) ?_
      obtain ⟨v2, hv2, hB1⟩ := bindS hB1
      refine Ok.seqw ⟨Cat.tab [(1, (.b 1 0)), (3, (vi s1)), (41, (vb v2))], [(1, .box [(.s (List.map c_api_Page p_d.Synced)), (.s (List.map c_api_Page p_d.Loose)), (vb p_d.Down)])]⟩ ?_ ?_
      · refine Ok.draw (m := 22) (MD := ⟨[]⟩) (CH := ⟨[]⟩) Tryz.tok Tryz.mixed (by kernel_rfl) ?_
        refine ⟨_, rfl, ⟨_, rfl, ⟨_, rfl, ?_⟩⟩⟩
        obtain ⟨c2, hg1, hv2⟩ := bindS hv2
        refine Br.itf hg1 (fun hb hg1 => ?_) fun hb hg1 => ?_
        · cases hg1
          refine ⟨_, rfl, ?_⟩
          refine ⟨True.intro, ?_⟩
          cases hv2
          exact Wk.tab ⟨Le.refl _, Le.refl _, Le.refl _, True.intro⟩ ⟨⟨_, rfl, .refl _⟩, True.intro⟩ rfl
        · refine ⟨_, rfl, ⟨_, rfl, ⟨_, rfl, ?_⟩⟩⟩
          obtain ⟨c1, hg2, hg1⟩ := bindS hg1
          refine Br.ite hg2 (fun hb hg2 => ?_) fun hb hg2 => ?_
          · obtain ⟨x3, hx3, hg2⟩ := bindS hg2
            obtain ⟨hc1, hg2⟩ := chk_some hg2
            obtain ⟨x4, hx4, hg2⟩ := bindS hg2
            refine ⟨_, rfl, ⟨_, ⟨_, rfl, rfl⟩, ⟨_, rfl, ⟨_, ⟨_, idx_nat hx3, _, idx_row hx3, rfl⟩, ⟨_, rfl, ⟨_, ⟨_, rfl, rfl⟩, ⟨_, rfl, ⟨_, ⟨_, rfl, rfl⟩, ⟨_, rfl, ⟨_, (Or.inl ⟨hc1, rfl⟩), ⟨_, ⟨_, idx_nat hx4, _, idx_row hx4, rfl⟩, ⟨_, rfl, ⟨_, ⟨_, rfl, rfl⟩, ⟨_, rfl, ?_⟩⟩⟩⟩⟩⟩⟩⟩⟩⟩⟩⟩⟩⟩
            cases hg2
            refine ⟨_, rfl, ?_⟩
            cases hg1
            refine ⟨_, rfl, ?_⟩
            refine ⟨True.intro, ?_⟩
            cases hv2
            exact Wk.tab ⟨Le.refl _, Le.refl _, Le.refl _, True.intro⟩ ⟨⟨_, rfl, .refl _⟩, True.intro⟩ rfl
          · cases hg2
            refine ⟨_, rfl, ?_⟩
            cases hg1
            refine ⟨_, rfl, ?_⟩
            refine ⟨True.intro, ?_⟩
            cases hv2
            exact Wk.tab ⟨Le.refl _, Le.refl _, Le.refl _, True.intro⟩ ⟨⟨_, rfl, .refl _⟩, True.intro⟩ rfl
      refine Ok.cond (d := 41) (b := v2) rfl hB1 (fun hb hB1 => ?_) fun hb hB1 => ?_
      · refine Ok.seq ?_
        refine Ok.region Tryz.tok ?_
        refine Ok.wk (Wk.tab (L := [(2, (vb false))]) (H' := []) ⟨Le.refl _, True.intro⟩ True.intro rfl) ?_
        refine Ok.ret ?_
        have hB1 := out_ret hB1 hy1
        cases hB1
        exact Fz.v
      · refine Ok.skip ?_
        refine Ok.region Tryz.tok ?_
        obtain ⟨hc2, hB1⟩ := chk_some hB1
        refine (Or.inl ⟨hc2, ?_⟩)
        exact ⟨_, (Option.some.inj hB1).symm, Wk.tab ⟨Le.refl _, Le.refl _, True.intro⟩ ⟨⟨_, rfl, .refl _⟩, True.intro⟩ rfl⟩
    · refine Ok.exit ?_
      have hB1 := out_ret hB1 hy1
      exact ⟨_, hB1, Wk.tab ⟨Le.refl _, True.intro⟩ ⟨⟨_, rfl, .refl _⟩, True.intro⟩ rfl⟩
  intro v1 h
  unfold ref04_Right_J1 at h
  refine Ok.seqj (fun v3 => ⟨Cat.tab [(1, (.b 1 0))], [(1, .box [(.s (List.map c_api_Page p_d.Synced)), (.s (List.map c_api_Page p_d.Loose)), (vb p_d.Down)])]⟩) (fun v3 => ref04_Right_J2 p_d v3 = some r) ?_ ?_
  · refine Ok.seq ?_
    refine Ok.region Tryz.tok ?_
    refine Ok.wk (Wk.tab (L := [(1, (.b 1 0)), (5, (vi (0)))]) (H' := [(1, .box [(.s (List.map c_api_Page p_d.Synced)), (.s (List.map c_api_Page p_d.Loose)), (vb p_d.Down)])]) ⟨Le.refl _, Le.refl _, True.intro⟩ ⟨⟨_, rfl, .refl _⟩, True.intro⟩ rfl) ?_
    refine Ok.block ?_
    refine Ok.loop (fun (s2 : Int) => ⟨Cat.tab [(1, (.b 1 0)), (5, (vi s2))], [(1, .box [(.s (List.map c_api_Page p_d.Synced)), (.s (List.map c_api_Page p_d.Loose)), (vb p_d.Down)])]⟩) (ref04_Right_B2 p_d) (s0 := 0) h (Wk.tab ⟨Le.refl _, Le.refl _, True.intro⟩ ⟨⟨_, rfl, .refl _⟩, True.intro⟩ rfl) ?_
    intro s2 y2 hB2 hy2
    unfold ref04_Right_B2 at hB2
    refine Ok.seq ?_
    refine Ok.seq ?_
    refine Ok.region Tryz.tok ?_
    refine ⟨_, rfl, ⟨_, List.length_map _, fun _ => ?_⟩⟩
    refine Ok.wk (Wk.tab (L := [(1, (.b 1 0)), (5, (vi s2)), (46, (vb ((decide (s2 < (p_d.Loose.length : Int))))))]) (H' := [(1, .box [(.s (List.map c_api_Page p_d.Synced)), (.s (List.map c_api_Page p_d.Loose)), (vb p_d.Down)])]) ⟨Le.refl _, Le.refl _, Le.refl _, True.intro⟩ ⟨⟨_, rfl, .refl _⟩, True.intro⟩ rfl) ?_
    refine Ok.cond (d := 46) (b := (decide (s2 < (p_d.Loose.length : Int)))) rfl hB2 (fun hb hB2 => ?_) fun hb hB2 => ?_
    · refine Ok.skip ?_
      refine Ok.seq ?_
      refine Ok.block ?_
      refine Ok.seq ?_
      refine Ok.region Tryz.tok ?_
      obtain ⟨x5, hx5, hB2⟩ := bindS hB2
      obtain ⟨x6, hx6, hB2⟩ := bindS hB2
      refine ⟨_, rfl, ⟨_, idx_nat hx5, _, idx_row hx5, ⟨_, rfl, ?_⟩⟩⟩
      refine CallOk.call (w_ref04_Page hx6) (LeL.refl _) ?_
      refine Ok.wk (Wk.tab (L := [(1, (.b 1 0)), (5, (vi s2)), (6, (vb x6))]) (H' := [(1, .box [(.s (List.map c_api_Page p_d.Synced)), (.s (List.map c_api_Page p_d.Loose)), (vb p_d.Down)])]) ⟨Le.refl _, Le.refl _, Le.refl _, True.intro⟩ ⟨⟨_, rfl, .refl _⟩, True.intro⟩ rfl) ?_
      refine Ok.seq ?_
      refine Ok.region Tryz.tok ?_
      refine Ok.wk (Wk.tab (L := [(1, (.b 1 0)), (5, (vi s2)), (56, (vb ((!x6))))]) (H' := [(1, .box [(.s (List.map c_api_Page p_d.Synced)), (.s (List.map c_api_Page p_d.Loose)), (vb p_d.Down)])]) ⟨Le.refl _, Le.refl _, Le.refl _, True.intro⟩ ⟨⟨_, rfl, .refl _⟩, True.intro⟩ rfl) ?_
      refine Ok.cond (d := 56) (b := (!x6)) rfl hB2 (fun hb hB2 => ?_) fun hb hB2 => ?_
      · refine Ok.seq ?_
        refine Ok.region Tryz.tok ?_
        refine Ok.wk (Wk.tab (L := [(2, (vb false))]) (H' := []) ⟨Le.refl _, True.intro⟩ True.intro rfl) ?_
        refine Ok.ret ?_
        have hB2 := out_ret hB2 hy2
        cases hB2
        exact Fz.v
      · refine Ok.skip ?_
        refine Ok.region Tryz.tok ?_
        obtain ⟨hc3, hB2⟩ := chk_some hB2
        refine (Or.inl ⟨hc3, ?_⟩)
        exact ⟨_, (Option.some.inj hB2).symm, Wk.tab ⟨Le.refl _, Le.refl _, True.intro⟩ ⟨⟨_, rfl, .refl _⟩, True.intro⟩ rfl⟩
    · refine Ok.exit ?_
      have hB2 := out_ret hB2 hy2
      exact ⟨_, hB2, Wk.tab ⟨Le.refl _, True.intro⟩ ⟨⟨_, rfl, .refl _⟩, True.intro⟩ rfl⟩
  intro v3 h
  unfold ref04_Right_J2 at h
  obtain ⟨v4, hv4, h⟩ := bindS h
  refine Ok.seqw ⟨Cat.tab [(2, (vb v4))], []⟩ ?_ ?_
  · refine Ok.region Tryz.tok ?_
    refine ⟨_, rfl, ?_⟩
    obtain ⟨c3, hg3, hv4⟩ := bindS hv4
    refine Br.itf hg3 (fun hb hg3 => ?_) fun hb hg3 => ?_
    · cases hg3
      cases hv4
      exact Wk.tab ⟨Le.refl _, True.intro⟩ True.intro rfl
    · refine ⟨_, rfl, ⟨_, List.length_map _, fun _ => ?_⟩⟩
      cases hg3
      cases hv4
      exact Wk.tab ⟨Le.refl _, True.intro⟩ True.intro rfl
  refine Ok.ret ?_
  cases h
  exact Fz.v

theorem w_law25_Great {p_d : api_Disk} {r : Bool} (h : law25_Great p_d = some r) : Pure Tryz.prog 46 [(.a [(.s (List.map c_api_Page p_d.Synced)), (.s (List.map c_api_Page p_d.Loose)), (vb p_d.Down)])] (vb r) := by
  refine pure_of_ok (n := 48) (c := (Tryz.f46.body.getD .skip)) Tryz.tok Tryz.func46 (by kernel_rfl) rfl rfl (Nat.le_of_ble_eq_true rfl) ?_
  unfold law25_Great at h
  refine Ok.wk (Wk.tab (L := [(0, (.a [(.s (List.map c_api_Page p_d.Synced)), (.s (List.map c_api_Page p_d.Loose)), (vb p_d.Down)]))]) (H' := []) ⟨Le.refl _, True.intro⟩ True.intro rfl) ?_
  refine Ok.seq ?_
  refine Ok.region Tryz.tok ?_
  refine Ok.wk (Wk.tab (L := [(1, (.b 1 0))]) (H' := [(1, .box [(.s (List.map c_api_Page p_d.Synced)), (.s (List.map c_api_Page p_d.Loose)), (vb p_d.Down)])]) ⟨Le.refl _, True.intro⟩ ⟨⟨_, rfl, .refl _⟩, True.intro⟩ rfl) ?_
  refine Ok.seq ?_
  obtain ⟨v1, hv1, h⟩ := bindS h
  refine Ok.seqw ⟨Cat.tab [(1, (.b 1 0)), (14, (vb v1))], [(1, .box [(.s (List.map c_api_Page p_d.Synced)), (.s (List.map c_api_Page p_d.Loose)), (vb p_d.Down)])]⟩ ?_ ?_
  · refine Ok.region Tryz.tok ?_
    refine ⟨_, rfl, ⟨_, List.length_map _, fun _ => ?_⟩⟩
    obtain ⟨c1, hg1, hv1⟩ := bindS hv1
    refine Br.itf hg1 (fun hb hg1 => ?_) fun hb hg1 => ?_
    · cases hg1
      cases hv1
      exact Wk.tab ⟨Le.refl _, Le.refl _, True.intro⟩ ⟨⟨_, rfl, .refl _⟩, True.intro⟩ rfl
    · refine ⟨_, rfl, ⟨_, List.length_map _, fun _ => ?_⟩⟩
      cases hg1
      cases hv1
      exact Wk.tab ⟨Le.refl _, Le.refl _, True.intro⟩ ⟨⟨_, rfl, .refl _⟩, True.intro⟩ rfl
  refine Ok.cond (d := 14) (b := v1) rfl h (fun hb h => ?_) fun hb h => ?_
  · refine Ok.seq ?_
    refine Ok.region Tryz.tok ?_
    refine Ok.wk (Wk.tab (L := [(2, (vb true))]) (H' := []) ⟨Le.refl _, True.intro⟩ True.intro rfl) ?_
    refine Ok.ret ?_
    cases h
    exact Fz.v
  · refine Ok.skip ?_
    refine Ok.seqj (fun v2 => ⟨Cat.tab [(1, (.b 1 0))], [(1, .box [(.s (List.map c_api_Page p_d.Synced)), (.s (List.map c_api_Page p_d.Loose)), (vb p_d.Down)])]⟩) (fun v2 => law25_Great_J1 p_d v2 = some r) ?_ ?_
    · refine Ok.seq ?_
      refine Ok.region Tryz.tok ?_
      refine Ok.wk (Wk.tab (L := [(1, (.b 1 0)), (3, (vi (0)))]) (H' := [(1, .box [(.s (List.map c_api_Page p_d.Synced)), (.s (List.map c_api_Page p_d.Loose)), (vb p_d.Down)])]) ⟨Le.refl _, Le.refl _, True.intro⟩ ⟨⟨_, rfl, .refl _⟩, True.intro⟩ rfl) ?_
      refine Ok.block ?_
      refine Ok.loop (fun (s1 : Int) => ⟨Cat.tab [(1, (.b 1 0)), (3, (vi s1))], [(1, .box [(.s (List.map c_api_Page p_d.Synced)), (.s (List.map c_api_Page p_d.Loose)), (vb p_d.Down)])]⟩) (law25_Great_B1 p_d) (s0 := 0) h (Wk.tab ⟨Le.refl _, Le.refl _, True.intro⟩ ⟨⟨_, rfl, .refl _⟩, True.intro⟩ rfl) ?_
      intro s1 y1 hB1 hy1
      unfold law25_Great_B1 at hB1
      refine Ok.seq ?_
      refine Ok.seq ?_
      refine Ok.region Tryz.tok ?_
      refine ⟨_, rfl, ⟨_, List.length_map _, fun _ => ?_⟩⟩
      refine Ok.wk (Wk.tab (L := [(1, (.b 1 0)), (3, (vi s1)), (19, (vb ((decide (s1 < (p_d.Synced.length : Int))))))]) (H' := [(1, .box [(.s (List.map c_api_Page p_d.Synced)), (.s (List.map c_api_Page p_d.Loose)), (vb p_d.Down)])]) ⟨Le.refl _, Le.refl _, Le.refl _, True.intro⟩ ⟨⟨_, rfl, .refl _⟩, True.intro⟩ rfl) ?_
      refine Ok.cond (d := 19) (b := (decide (s1 < (p_d.Synced.length : Int)))) rfl hB1 (fun hb hB1 => ?_) fun hb hB1 => ?_
      · refine Ok.skip ?_
        refine Ok.seq ?_
        refine Ok.block ?_
        refine Ok.seq ?_
        refine Ok.region Tryz.tok ?_
        obtain ⟨x1, hx1, hB1⟩ := bindS hB1
        refine ⟨_, rfl, ⟨_, idx_nat hx1, _, idx_row hx1, ⟨_, rfl, ⟨_, List.length_map _, fun _ => ?_⟩⟩⟩⟩
        refine Ok.wk (Wk.tab (L := [(1, (.b 1 0)), (3, (vi s1)), (29, (vb ((decide ((x1.Data.length : Int) > 200)))))]) (H' := [(1, .box [(.s (List.map c_api_Page p_d.Synced)), (.s (List.map c_api_Page p_d.Loose)), (vb p_d.Down)])]) ⟨Le.refl _, Le.refl _, Le.refl _, True.intro⟩ ⟨⟨_, rfl, .refl _⟩, True.intro⟩ rfl) ?_
        refine Ok.cond (d := 29) (b := (decide ((x1.Data.length : Int) > 200))) rfl hB1 (fun hb hB1 => ?_) fun hb hB1 => ?_
        · refine Ok.seq ?_
          refine Ok.region Tryz.tok ?_
          refine Ok.wk (Wk.tab (L := [(2, (vb true))]) (H' := []) ⟨Le.refl _, True.intro⟩ True.intro rfl) ?_
          refine Ok.ret ?_
          have hB1 := out_ret hB1 hy1
          cases hB1
          exact Fz.v
        · refine Ok.skip ?_
          refine Ok.region Tryz.tok ?_
          obtain ⟨hc1, hB1⟩ := chk_some hB1
          refine (Or.inl ⟨hc1, ?_⟩)
          exact ⟨_, (Option.some.inj hB1).symm, Wk.tab ⟨Le.refl _, Le.refl _, True.intro⟩ ⟨⟨_, rfl, .refl _⟩, True.intro⟩ rfl⟩
      · refine Ok.exit ?_
        have hB1 := out_ret hB1 hy1
        exact ⟨_, hB1, Wk.tab ⟨Le.refl _, True.intro⟩ ⟨⟨_, rfl, .refl _⟩, True.intro⟩ rfl⟩
    intro v2 h
    unfold law25_Great_J1 at h
    refine Ok.seqj (fun v3 => ⟨Cat.tab [(1, (.b 1 0))], [(1, .box [(.s (List.map c_api_Page p_d.Synced)), (.s (List.map c_api_Page p_d.Loose)), (vb p_d.Down)])]⟩) (fun v3 => law25_Great_J2 p_d v3 = some r) ?_ ?_
    · refine Ok.seq ?_
      refine Ok.region Tryz.tok ?_
      refine Ok.wk (Wk.tab (L := [(1, (.b 1 0)), (4, (vi (0)))]) (H' := [(1, .box [(.s (List.map c_api_Page p_d.Synced)), (.s (List.map c_api_Page p_d.Loose)), (vb p_d.Down)])]) ⟨Le.refl _, Le.refl _, True.intro⟩ ⟨⟨_, rfl, .refl _⟩, True.intro⟩ rfl) ?_
      refine Ok.block ?_
      refine Ok.loop (fun (s2 : Int) => ⟨Cat.tab [(1, (.b 1 0)), (4, (vi s2))], [(1, .box [(.s (List.map c_api_Page p_d.Synced)), (.s (List.map c_api_Page p_d.Loose)), (vb p_d.Down)])]⟩) (law25_Great_B2 p_d) (s0 := 0) h (Wk.tab ⟨Le.refl _, Le.refl _, True.intro⟩ ⟨⟨_, rfl, .refl _⟩, True.intro⟩ rfl) ?_
      intro s2 y2 hB2 hy2
      unfold law25_Great_B2 at hB2
      refine Ok.seq ?_
      refine Ok.seq ?_
      refine Ok.region Tryz.tok ?_
      refine ⟨_, rfl, ⟨_, List.length_map _, fun _ => ?_⟩⟩
      refine Ok.wk (Wk.tab (L := [(1, (.b 1 0)), (4, (vi s2)), (34, (vb ((decide (s2 < (p_d.Loose.length : Int))))))]) (H' := [(1, .box [(.s (List.map c_api_Page p_d.Synced)), (.s (List.map c_api_Page p_d.Loose)), (vb p_d.Down)])]) ⟨Le.refl _, Le.refl _, Le.refl _, True.intro⟩ ⟨⟨_, rfl, .refl _⟩, True.intro⟩ rfl) ?_
      refine Ok.cond (d := 34) (b := (decide (s2 < (p_d.Loose.length : Int)))) rfl hB2 (fun hb hB2 => ?_) fun hb hB2 => ?_
      · refine Ok.skip ?_
        refine Ok.seq ?_
        refine Ok.block ?_
        refine Ok.seq ?_
        refine Ok.region Tryz.tok ?_
        obtain ⟨x2, hx2, hB2⟩ := bindS hB2
        refine ⟨_, rfl, ⟨_, idx_nat hx2, _, idx_row hx2, ⟨_, rfl, ⟨_, List.length_map _, fun _ => ?_⟩⟩⟩⟩
        refine Ok.wk (Wk.tab (L := [(1, (.b 1 0)), (4, (vi s2)), (44, (vb ((decide ((x2.Data.length : Int) > 200)))))]) (H' := [(1, .box [(.s (List.map c_api_Page p_d.Synced)), (.s (List.map c_api_Page p_d.Loose)), (vb p_d.Down)])]) ⟨Le.refl _, Le.refl _, Le.refl _, True.intro⟩ ⟨⟨_, rfl, .refl _⟩, True.intro⟩ rfl) ?_
        refine Ok.cond (d := 44) (b := (decide ((x2.Data.length : Int) > 200))) rfl hB2 (fun hb hB2 => ?_) fun hb hB2 => ?_
        · refine Ok.seq ?_
          refine Ok.region Tryz.tok ?_
          refine Ok.wk (Wk.tab (L := [(2, (vb true))]) (H' := []) ⟨Le.refl _, True.intro⟩ True.intro rfl) ?_
          refine Ok.ret ?_
          have hB2 := out_ret hB2 hy2
          cases hB2
          exact Fz.v
        · refine Ok.skip ?_
          refine Ok.region Tryz.tok ?_
          obtain ⟨hc2, hB2⟩ := chk_some hB2
          refine (Or.inl ⟨hc2, ?_⟩)
          exact ⟨_, (Option.some.inj hB2).symm, Wk.tab ⟨Le.refl _, Le.refl _, True.intro⟩ ⟨⟨_, rfl, .refl _⟩, True.intro⟩ rfl⟩
      · refine Ok.exit ?_
        have hB2 := out_ret hB2 hy2
        exact ⟨_, hB2, Wk.tab ⟨Le.refl _, True.intro⟩ ⟨⟨_, rfl, .refl _⟩, True.intro⟩ rfl⟩
    intro v3 h
    unfold law25_Great_J2 at h
    refine Ok.seq ?_
    refine Ok.region Tryz.tok ?_
    obtain ⟨x3, hx3, h⟩ := bindS h
    refine ⟨_, rfl, ?_⟩
    refine CallOk.call (w_ref04_Right hx3) (LeL.refl _) ?_
    refine Ok.wk (Wk.tab (L := [(2, (vb ((!x3))))]) (H' := []) ⟨Le.refl _, True.intro⟩ True.intro rfl) ?_
    refine Ok.ret ?_
    cases h
    exact Fz.v

theorem w_law27_Great {p_disks : List api_Disk} {p_l : List api_Chain} {r : Bool} (h : law27_Great p_disks p_l = some r) : Pure Tryz.prog 21 [(.s (List.map c_api_Disk p_disks)), (.s (List.map c_api_Chain p_l))] (vb r) := by
  refine pure_of_ok (n := 39) (c := (Tryz.f21.body.getD .skip)) Tryz.tok Tryz.func21 (by kernel_rfl) rfl rfl (Nat.le_of_ble_eq_true rfl) ?_
  unfold law27_Great at h
  refine Ok.wk (Wk.tab (L := [(0, (.s (List.map c_api_Disk p_disks))), (1, (.s (List.map c_api_Chain p_l)))]) (H' := []) ⟨Le.refl _, Le.refl _, True.intro⟩ True.intro rfl) ?_
  refine Ok.seq ?_
  refine Ok.region Tryz.tok ?_
  refine Ok.wk (Wk.tab (L := [(0, (.s (List.map c_api_Disk p_disks))), (1, (.s (List.map c_api_Chain p_l)))]) (H' := []) ⟨Le.refl _, Le.refl _, True.intro⟩ True.intro rfl) ?_
  refine Ok.seq ?_
  obtain ⟨v1, hv1, h⟩ := bindS h
  refine Ok.seqw ⟨Cat.tab [(0, (.s (List.map c_api_Disk p_disks))), (1, (.s (List.map c_api_Chain p_l))), (14, (vb v1))], []⟩ ?_ ?_
  · refine Ok.region Tryz.tok ?_
    refine ⟨_, List.length_map _, fun _ => ?_⟩
    obtain ⟨c1, hg1, hv1⟩ := bindS hv1
    refine Br.itf hg1 (fun hb hg1 => ?_) fun hb hg1 => ?_
    · cases hg1
      cases hv1
      exact Wk.tab ⟨Le.refl _, Le.refl _, Le.refl _, True.intro⟩ True.intro rfl
    · refine ⟨_, List.length_map _, fun _ => ?_⟩
      cases hg1
      cases hv1
      exact Wk.tab ⟨Le.refl _, Le.refl _, Le.refl _, True.intro⟩ True.intro rfl
  refine Ok.cond (d := 14) (b := v1) rfl h (fun hb h => ?_) fun hb h => ?_
  · refine Ok.seq ?_
    refine Ok.region Tryz.tok ?_
    refine Ok.wk (Wk.tab (L := [(4, (vb true))]) (H' := []) ⟨Le.refl _, True.intro⟩ True.intro rfl) ?_
    refine Ok.ret ?_
    cases h
    exact Fz.v
  · refine Ok.skip ?_
    refine Ok.seqj (fun v2 => ⟨Cat.tab [(1, (.s (List.map c_api_Chain p_l)))], []⟩) (fun v2 => law27_Great_J1 p_l v2 = some r) ?_ ?_
    · refine Ok.seq ?_
      refine Ok.region Tryz.tok ?_
      refine Ok.wk (Wk.tab (L := [(0, (.s (List.map c_api_Disk p_disks))), (1, (.s (List.map c_api_Chain p_l))), (5, (vi (0)))]) (H' := []) ⟨Le.refl _, Le.refl _, Le.refl _, True.intro⟩ True.intro rfl) ?_
      refine Ok.block ?_
      refine Ok.loop (fun (s1 : Int) => ⟨Cat.tab [(0, (.s (List.map c_api_Disk p_disks))), (1, (.s (List.map c_api_Chain p_l))), (5, (vi s1))], []⟩) (law27_Great_B1 p_disks p_l) (s0 := 0) h (Wk.tab ⟨Le.refl _, Le.refl _, Le.refl _, True.intro⟩ True.intro rfl) ?_
      intro s1 y1 hB1 hy1
      unfold law27_Great_B1 at hB1
      refine Ok.seq ?_
      refine Ok.seq ?_
      refine Ok.region Tryz.tok ?_
      refine ⟨_, List.length_map _, fun _ => ?_⟩
      refine Ok.wk (Wk.tab (L := [(0, (.s (List.map c_api_Disk p_disks))), (1, (.s (List.map c_api_Chain p_l))), (5, (vi s1)), (18, (vb ((decide (s1 < (p_disks.length : Int))))))]) (H' := []) ⟨Le.refl _, Le.refl _, Le.refl _, Le.refl _, True.intro⟩ True.intro rfl) ?_
      refine Ok.cond (d := 18) (b := (decide (s1 < (p_disks.length : Int)))) rfl hB1 (fun hb hB1 => ?_) fun hb hB1 => ?_
      · refine Ok.skip ?_
        refine Ok.seq ?_
        refine Ok.block ?_
        refine Ok.seq ?_
        refine Ok.region Tryz.tok ?_
        obtain ⟨x1, hx1, hB1⟩ := bindS hB1
        obtain ⟨x2, hx2, hB1⟩ := bindS hB1
        refine ⟨_, idx_nat hx1, _, idx_row hx1, ⟨_, rfl, ?_⟩⟩
        refine CallOk.call (w_law25_Great hx2) (LeL.refl _) ?_
        refine Ok.wk (Wk.tab (L := [(0, (.s (List.map c_api_Disk p_disks))), (1, (.s (List.map c_api_Chain p_l))), (5, (vi s1)), (25, (vb x2))]) (H' := []) ⟨Le.refl _, Le.refl _, Le.refl _, Le.refl _, True.intro⟩ True.intro rfl) ?_
        refine Ok.cond (d := 25) (b := x2) rfl hB1 (fun hb hB1 => ?_) fun hb hB1 => ?_
        · refine Ok.seq ?_
          refine Ok.region Tryz.tok ?_
          refine Ok.wk (Wk.tab (L := [(4, (vb true))]) (H' := []) ⟨Le.refl _, True.intro⟩ True.intro rfl) ?_
          refine Ok.ret ?_
          have hB1 := out_ret hB1 hy1
          cases hB1
          exact Fz.v
        · refine Ok.skip ?_
          refine Ok.region Tryz.tok ?_
          obtain ⟨hc1, hB1⟩ := chk_some hB1
          refine (Or.inl ⟨hc1, ?_⟩)
          exact ⟨_, (Option.some.inj hB1).symm, Wk.tab ⟨Le.refl _, Le.refl _, Le.refl _, True.intro⟩ True.intro rfl⟩
      · refine Ok.exit ?_
        have hB1 := out_ret hB1 hy1
        exact ⟨_, hB1, Wk.tab ⟨Le.refl _, True.intro⟩ True.intro rfl⟩
    intro v2 h
    unfold law27_Great_J1 at h
    refine Ok.seqj (fun v3 => ⟨Cat.tab [], []⟩) (fun v3 => law27_Great_J2 v3 = some r) ?_ ?_
    · refine Ok.seq ?_
      refine Ok.region Tryz.tok ?_
      refine Ok.wk (Wk.tab (L := [(1, (.s (List.map c_api_Chain p_l))), (6, (vi (0)))]) (H' := []) ⟨Le.refl _, Le.refl _, True.intro⟩ True.intro rfl) ?_
      refine Ok.block ?_
      refine Ok.loop (fun (s2 : Int) => ⟨Cat.tab [(1, (.s (List.map c_api_Chain p_l))), (6, (vi s2))], []⟩) (law27_Great_B2 p_l) (s0 := 0) h (Wk.tab ⟨Le.refl _, Le.refl _, True.intro⟩ True.intro rfl) ?_
      intro s2 y2 hB2 hy2
      unfold law27_Great_B2 at hB2
      refine Ok.seq ?_
      refine Ok.seq ?_
      refine Ok.region Tryz.tok ?_
      refine ⟨_, List.length_map _, fun _ => ?_⟩
      refine Ok.wk (Wk.tab (L := [(1, (.s (List.map c_api_Chain p_l))), (6, (vi s2)), (29, (vb ((decide (s2 < (p_l.length : Int))))))]) (H' := []) ⟨Le.refl _, Le.refl _, Le.refl _, True.intro⟩ True.intro rfl) ?_
      refine Ok.cond (d := 29) (b := (decide (s2 < (p_l.length : Int)))) rfl hB2 (fun hb hB2 => ?_) fun hb hB2 => ?_
      · refine Ok.skip ?_
        refine Ok.seq ?_
        refine Ok.block ?_
        refine Ok.seq ?_
        refine Ok.region Tryz.tok ?_
        obtain ⟨x3, hx3, hB2⟩ := bindS hB2
        refine ⟨_, idx_nat hx3, _, idx_row hx3, ⟨_, rfl, ⟨_, List.length_map _, fun _ => ?_⟩⟩⟩
        refine Ok.wk (Wk.tab (L := [(1, (.s (List.map c_api_Chain p_l))), (6, (vi s2)), (38, (vb ((decide ((x3.Servers.length : Int) > 12)))))]) (H' := []) ⟨Le.refl _, Le.refl _, Le.refl _, True.intro⟩ True.intro rfl) ?_
        refine Ok.cond (d := 38) (b := (decide ((x3.Servers.length : Int) > 12))) rfl hB2 (fun hb hB2 => ?_) fun hb hB2 => ?_
        · refine Ok.seq ?_
          refine Ok.region Tryz.tok ?_
          refine Ok.wk (Wk.tab (L := [(4, (vb true))]) (H' := []) ⟨Le.refl _, True.intro⟩ True.intro rfl) ?_
          refine Ok.ret ?_
          have hB2 := out_ret hB2 hy2
          cases hB2
          exact Fz.v
        · refine Ok.skip ?_
          refine Ok.region Tryz.tok ?_
          obtain ⟨hc2, hB2⟩ := chk_some hB2
          refine (Or.inl ⟨hc2, ?_⟩)
          exact ⟨_, (Option.some.inj hB2).symm, Wk.tab ⟨Le.refl _, Le.refl _, True.intro⟩ True.intro rfl⟩
      · refine Ok.exit ?_
        have hB2 := out_ret hB2 hy2
        exact ⟨_, hB2, Wk.tab True.intro True.intro rfl⟩
    intro v3 h
    unfold law27_Great_J2 at h
    refine Ok.seq ?_
    refine Ok.region Tryz.tok ?_
    refine Ok.wk (Wk.tab (L := [(4, (vb false))]) (H' := []) ⟨Le.refl _, True.intro⟩ True.intro rfl) ?_
    refine Ok.ret ?_
    cases h
    exact Fz.v

theorem w_law29_Great {p_x : law29_Set} {r : Bool} (h : law29_Great p_x = some r) : Pure Tryz.prog 6 [(.a [(.s (List.map c_api_Named p_x.Named)), (.s (List.map c_api_Room p_x.Rooms)), (.s (List.map c_api_Lease p_x.Leases)), (.s (List.map c_api_Disk p_x.Disks))])] (vb r) := by
  refine pure_of_ok (n := 24) (c := (Tryz.f6.body.getD .skip)) Tryz.tok Tryz.func6 (by kernel_rfl) rfl rfl (Nat.le_of_ble_eq_true rfl) ?_
  unfold law29_Great at h
  refine Ok.wk (Wk.tab (L := [(0, (.a [(.s (List.map c_api_Named p_x.Named)), (.s (List.map c_api_Room p_x.Rooms)), (.s (List.map c_api_Lease p_x.Leases)), (.s (List.map c_api_Disk p_x.Disks))]))]) (H' := []) ⟨Le.refl _, True.intro⟩ True.intro rfl) ?_
  refine Ok.seq ?_
  refine Ok.region Tryz.tok ?_
  refine Ok.wk (Wk.tab (L := [(1, (.b 1 0))]) (H' := [(1, .box [(.s (List.map c_api_Named p_x.Named)), (.s (List.map c_api_Room p_x.Rooms)), (.s (List.map c_api_Lease p_x.Leases)), (.s (List.map c_api_Disk p_x.Disks))])]) ⟨Le.refl _, True.intro⟩ ⟨⟨_, rfl, .refl _⟩, True.intro⟩ rfl) ?_
  obtain ⟨v1, hv1, h⟩ := bindS h
  refine Ok.seqw ⟨Cat.tab [(2, (vb v1))], []⟩ ?_ ?_
  · refine Ok.region Tryz.tok ?_
    refine ⟨_, rfl, ⟨_, List.length_map _, fun _ => ?_⟩⟩
    obtain ⟨c1, hg1, hv1⟩ := bindS hv1
    refine Br.itf hg1 (fun hb hg1 => ?_) fun hb hg1 => ?_
    · cases hg1
      obtain ⟨c2, hg2, hv1⟩ := bindS hv1
      replace hg2 := iteT hg2
      cases hg2
      obtain ⟨c3, hg3, hv1⟩ := bindS hv1
      replace hg3 := iteT hg3
      cases hg3
      cases hv1
      exact Wk.tab ⟨Le.refl _, True.intro⟩ True.intro rfl
    · refine ⟨_, rfl, ⟨_, List.length_map _, fun _ => ?_⟩⟩
      cases hg1
      obtain ⟨c2, hg4, hv1⟩ := bindS hv1
      refine Br.itf hg4 (fun hb hg4 => ?_) fun hb hg4 => ?_
      · cases hg4
        obtain ⟨c3, hg5, hv1⟩ := bindS hv1
        replace hg5 := iteT hg5
        cases hg5
        cases hv1
        exact Wk.tab ⟨Le.refl _, True.intro⟩ True.intro rfl
      · refine ⟨_, rfl, ⟨_, List.length_map _, fun _ => ?_⟩⟩
        cases hg4
        obtain ⟨c3, hg6, hv1⟩ := bindS hv1
        refine Br.itf hg6 (fun hb hg6 => ?_) fun hb hg6 => ?_
        · cases hg6
          cases hv1
          exact Wk.tab ⟨Le.refl _, True.intro⟩ True.intro rfl
        · obtain ⟨x1, hx1, hg6⟩ := bindS hg6
          refine ⟨_, rfl, ?_⟩
          refine CallOk.call (w_law27_Great hx1) (.cons (Le.refl _) (.cons (Le.nil) (.nil))) ?_
          cases hg6
          cases hv1
          exact Wk.tab ⟨Le.refl _, True.intro⟩ True.intro rfl
  refine Ok.ret ?_
  cases h
  exact Fz.v

theorem w_law29_room {p_l : List api_Room} {p_r : api_Room} {r : Bool} (h : law29_room p_l p_r = some r) : Pure Tryz.prog 16 [(.s (List.map c_api_Room p_l)), (.a [(vi p_r.Id), (vi p_r.Ino), (vi p_r.Client)])] (vb r) := by
  refine pure_of_ok (n := 18) (c := (Tryz.f16.body.getD .skip)) Tryz.tok Tryz.func16 (by kernel_rfl) rfl rfl (Nat.le_of_ble_eq_true rfl) ?_
  unfold law29_room at h
  refine Ok.wk (Wk.tab (L := [(0, (.s (List.map c_api_Room p_l))), (1, (.a [(vi p_r.Id), (vi p_r.Ino), (vi p_r.Client)]))]) (H' := []) ⟨Le.refl _, Le.refl _, True.intro⟩ True.intro rfl) ?_
  refine Ok.seq ?_
  refine Ok.region Tryz.tok ?_
  refine Ok.wk (Wk.tab (L := [(0, (.s (List.map c_api_Room p_l))), (3, (.b 3 0))]) (H' := [(3, .box [(vi p_r.Id), (vi p_r.Ino), (vi p_r.Client)])]) ⟨Le.refl _, Le.refl _, True.intro⟩ ⟨⟨_, rfl, .refl _⟩, True.intro⟩ rfl) ?_
  refine Ok.seqj (fun v1 => ⟨Cat.tab [], []⟩) (fun v1 => law29_room_J1 v1 = some r) ?_ ?_
  · refine Ok.seq ?_
    refine Ok.region Tryz.tok ?_
    refine Ok.wk (Wk.tab (L := [(0, (.s (List.map c_api_Room p_l))), (3, (.b 3 0)), (5, (vi (0)))]) (H' := [(3, .box [(vi p_r.Id), (vi p_r.Ino), (vi p_r.Client)])]) ⟨Le.refl _, Le.refl _, Le.refl _, True.intro⟩ ⟨⟨_, rfl, .refl _⟩, True.intro⟩ rfl) ?_
    refine Ok.block ?_
    refine Ok.loop (fun (s1 : Int) => ⟨Cat.tab [(0, (.s (List.map c_api_Room p_l))), (3, (.b 3 0)), (5, (vi s1))], [(3, .box [(vi p_r.Id), (vi p_r.Ino), (vi p_r.Client)])]⟩) (law29_room_B1 p_l p_r) (s0 := 0) h (Wk.tab ⟨Le.refl _, Le.refl _, Le.refl _, True.intro⟩ ⟨⟨_, rfl, .refl _⟩, True.intro⟩ rfl) ?_
    intro s1 y1 hB1 hy1
    unfold law29_room_B1 at hB1
    refine Ok.seq ?_
    refine Ok.seq ?_
    refine Ok.region Tryz.tok ?_
    refine ⟨_, List.length_map _, fun _ => ?_⟩
    refine Ok.wk (Wk.tab (L := [(0, (.s (List.map c_api_Room p_l))), (3, (.b 3 0)), (5, (vi s1)), (9, (vb ((decide (s1 < (p_l.length : Int))))))]) (H' := [(3, .box [(vi p_r.Id), (vi p_r.Ino), (vi p_r.Client)])]) ⟨Le.refl _, Le.refl _, Le.refl _, Le.refl _, True.intro⟩ ⟨⟨_, rfl, .refl _⟩, True.intro⟩ rfl) ?_
    refine Ok.cond (d := 9) (b := (decide (s1 < (p_l.length : Int)))) rfl hB1 (fun hb hB1 => ?_) fun hb hB1 => ?_
    · refine Ok.skip ?_
      refine Ok.seq ?_
      refine Ok.block ?_
      refine Ok.seq ?_
      refine Ok.draw (m := 6) (MD := ⟨[]⟩) (CH := ⟨[]⟩) Tryz.tok Tryz.mixed (by kernel_rfl) ?_
      obtain ⟨x1, hx1, hB1⟩ := bindS hB1
      refine ⟨_, rfl, ⟨_, rfl, ⟨_, ⟨_, idx_nat hx1, _, idx_row hx1, rfl⟩, ⟨_, ⟨_, rfl, rfl⟩, ⟨_, ⟨_, rfl, rfl⟩, ⟨_, ⟨[.int .i64, .int .i64, .int .i64], by kernel_rfl, rfl⟩, ⟨True.intro, ?_⟩⟩⟩⟩⟩⟩⟩
      refine Ok.wk (Wk.tab (L := [(0, (.s (List.map c_api_Room p_l))), (3, (.b 3 0)), (5, (vi s1)), (17, (vb ((x1.Id == p_r.Id && (x1.Ino == p_r.Ino && (x1.Client == p_r.Client && true))))))]) (H' := [(3, .box [(vi p_r.Id), (vi p_r.Ino), (vi p_r.Client)])]) ⟨Le.refl _, Le.refl _, Le.refl _, Le.refl _, True.intro⟩ ⟨⟨_, rfl, .refl _⟩, True.intro⟩ rfl) ?_
      refine Ok.cond (d := 17) (b := (x1.Id == p_r.Id && (x1.Ino == p_r.Ino && (x1.Client == p_r.Client && true)))) rfl hB1 (fun hb hB1 => ?_) fun hb hB1 => ?_
      · refine Ok.seq ?_
        refine Ok.region Tryz.tok ?_
        refine Ok.wk (Wk.tab (L := [(4, (vb true))]) (H' := []) ⟨Le.refl _, True.intro⟩ True.intro rfl) ?_
        refine Ok.ret ?_
        have hB1 := out_ret hB1 hy1
        cases hB1
        exact Fz.v
      · refine Ok.skip ?_
        refine Ok.region Tryz.tok ?_
        obtain ⟨hc1, hB1⟩ := chk_some hB1
        refine (Or.inl ⟨hc1, ?_⟩)
        exact ⟨_, (Option.some.inj hB1).symm, Wk.tab ⟨Le.refl _, Le.refl _, Le.refl _, True.intro⟩ ⟨⟨_, rfl, .refl _⟩, True.intro⟩ rfl⟩
    · refine Ok.exit ?_
      have hB1 := out_ret hB1 hy1
      exact ⟨_, hB1, Wk.tab True.intro True.intro rfl⟩
  intro v1 h
  unfold law29_room_J1 at h
  refine Ok.seq ?_
  refine Ok.region Tryz.tok ?_
  refine Ok.wk (Wk.tab (L := [(4, (vb false))]) (H' := []) ⟨Le.refl _, True.intro⟩ True.intro rfl) ?_
  refine Ok.ret ?_
  cases h
  exact Fz.v

theorem w_pack_ReadInt {p_b : List UInt8} {r : Int × (List UInt8) × Int} (h : pack_ReadInt p_b = some r) : Pure Tryz.prog 90 [(.s (List.map cU8 p_b))] (.t [(vi r.1), (.s (List.map cU8 r.2.1)), (vi r.2.2)]) := by
  refine pure_of_ok (n := 50) (c := (Tryz.f90.body.getD .skip)) Tryz.tok Tryz.func90 (by kernel_rfl) rfl rfl (Nat.le_of_ble_eq_true rfl) ?_
  unfold pack_ReadInt at h
  refine Ok.wk (Wk.tab (L := [(0, (.s (List.map cU8 p_b)))]) (H' := []) ⟨Le.refl _, True.intro⟩ True.intro rfl) ?_
  refine Ok.seq ?_
  refine Ok.region Tryz.tok ?_
  refine Ok.wk (Wk.tab (L := [(0, (.s (List.map cU8 p_b)))]) (H' := []) ⟨Le.refl _, True.intro⟩ True.intro rfl) ?_
  refine Ok.seq ?_
  refine Ok.region Tryz.tok ?_
  refine Ok.wk (Wk.tab (L := [(0, (.s (List.map cU8 p_b))), (5, (.v (.int .u64 (0))))]) (H' := []) ⟨Le.refl _, Le.refl _, True.intro⟩ True.intro rfl) ?_
  refine Ok.seqj (fun v1 => ⟨Cat.tab [], []⟩) (fun v1 => pack_ReadInt_J1 v1 = some r) ?_ ?_
  · refine Ok.seq ?_
    refine Ok.region Tryz.tok ?_
    refine ⟨_, List.length_map _, fun _ => ?_⟩
    refine Ok.wk (Wk.tab (L := [(0, (.s (List.map cU8 p_b))), (5, (.v (.int .u64 (0)))), (8, (.s (List.map cU8 p_b))), (9, (vi ((p_b.length : Int)))), (10, (vi (0)))]) (H' := []) ⟨Le.refl _, Le.refl _, Le.refl _, Le.refl _, Le.refl _, True.intro⟩ True.intro rfl) ?_
    refine Ok.block ?_
    refine Ok.loop (fun (s1 : Int × Int) => ⟨Cat.tab [(0, (.s (List.map cU8 p_b))), (5, (.v (.int .u64 s1.1))), (8, (.s (List.map cU8 p_b))), (9, (vi ((p_b.length : Int)))), (10, (vi s1.2))], []⟩) (pack_ReadInt_B1 p_b) (s0 := (0, 0)) h (Wk.tab ⟨Le.refl _, Le.refl _, Le.refl _, Le.refl _, Le.refl _, True.intro⟩ True.intro rfl) ?_
    intro s1 y1 hB1 hy1
    unfold pack_ReadInt_B1 at hB1
    refine Ok.seq ?_
    refine Ok.region Tryz.tok ?_
    refine Ok.wk (Wk.tab (L := [(0, (.s (List.map cU8 p_b))), (5, (.v (.int .u64 s1.1))), (8, (.s (List.map cU8 p_b))), (9, (vi ((p_b.length : Int)))), (10, (vi s1.2)), (11, (vb ((decide (s1.2 < (p_b.length : Int))))))]) (H' := []) ⟨Le.refl _, Le.refl _, Le.refl _, Le.refl _, Le.refl _, Le.refl _, True.intro⟩ True.intro rfl) ?_
    refine Ok.seq ?_
    refine Ok.cond (d := 11) (b := (decide (s1.2 < (p_b.length : Int)))) rfl hB1 (fun hb hB1 => ?_) fun hb hB1 => ?_
    · refine Ok.skip ?_
      refine Ok.seq ?_
      refine Ok.block ?_
      refine Ok.seq ?_
      refine Ok.region Tryz.tok ?_
      obtain ⟨x1, hx1, hB1⟩ := bindS hB1
      refine ⟨_, idx_nat hx1, _, idx_row hx1, ⟨_, rfl, ?_⟩⟩
      refine Ok.wk (Wk.tab (L := [(0, (.s (List.map cU8 p_b))), (5, (.v (.int .u64 s1.1))), (6, (vi s1.2)), (7, (vu x1)), (8, (.s (List.map cU8 p_b))), (9, (vi ((p_b.length : Int)))), (10, (vi s1.2))]) (H' := []) ⟨Le.refl _, Le.refl _, Le.refl _, Le.refl _, Le.refl _, Le.refl _, Le.refl _, True.intro⟩ True.intro rfl) ?_
      refine Ok.seq ?_
      obtain ⟨v2, hv2, hB1⟩ := bindS hB1
      refine Ok.seqw ⟨Cat.tab [(0, (.s (List.map cU8 p_b))), (5, (.v (.int .u64 s1.1))), (6, (vi s1.2)), (7, (vu x1)), (8, (.s (List.map cU8 p_b))), (9, (vi ((p_b.length : Int)))), (10, (vi s1.2)), (20, (vb v2))], []⟩ ?_ ?_
      · refine Ok.region Tryz.tok ?_
        obtain ⟨c1, hg1, hv2⟩ := bindS hv2
        refine Br.ite hg1 (fun hb hg1 => ?_) fun hb hg1 => ?_
        · cases hg1
          cases hv2
          exact Wk.tab ⟨Le.refl _, Le.refl _, Le.refl _, Le.refl _, Le.refl _, Le.refl _, Le.refl _, Le.refl _, True.intro⟩ True.intro rfl
        · cases hg1
          cases hv2
          exact Wk.tab ⟨Le.refl _, Le.refl _, Le.refl _, Le.refl _, Le.refl _, Le.refl _, Le.refl _, Le.refl _, True.intro⟩ True.intro rfl
      refine Ok.cond (d := 20) (b := v2) rfl hB1 (fun hb hB1 => ?_) fun hb hB1 => ?_
      · refine Ok.seq ?_
        refine Ok.region Tryz.tok ?_
        refine Ok.wk (Wk.tab (L := [(2, (vi (0))), (3, (.v (.slice none 0 0))), (4, (vi (11)))]) (H' := []) ⟨Le.refl _, Le.refl _, Le.refl _, True.intro⟩ True.intro rfl) ?_
        refine Ok.ret ?_
        have hB1 := out_ret hB1 hy1
        cases hB1
        exact (Fz.t (.cons Fz.v (.cons Fz.nil (.cons Fz.v .nil))))
      · refine Ok.skip ?_
        refine Ok.seq ?_
        refine Ok.region Tryz.tok ?_
        obtain ⟨hc1, hB1⟩ := chk_some hB1
        obtain ⟨hc2, hB1⟩ := chk_some hB1
        refine ⟨_, b8_and x1 ((127 : UInt8)), ⟨_, wrap_of_u8 (k := .u64) (by decide) _, (Or.inl ⟨hc1, ⟨hc2, _, rfl, ⟨_, rfl, ?_⟩⟩⟩)⟩⟩
        refine Ok.wk (Wk.tab (L := [(0, (.s (List.map cU8 p_b))), (5, (.v (.int .u64 ((orK .u64 s1.1 ((shlK .u64 ((((x1 &&& (127 : UInt8))).toNat : Int)) ((7 * s1.2))))))))), (6, (vi s1.2)), (7, (vu x1)), (8, (.s (List.map cU8 p_b))), (9, (vi ((p_b.length : Int)))), (10, (vi s1.2))]) (H' := []) ⟨Le.refl _, Le.refl _, Le.refl _, Le.refl _, Le.refl _, Le.refl _, Le.refl _, True.intro⟩ True.intro rfl) ?_
        refine Ok.seq ?_
        refine Ok.seq ?_
        refine Ok.region Tryz.tok ?_
        refine Ok.wk (Wk.tab (L := [(0, (.s (List.map cU8 p_b))), (5, (.v (.int .u64 ((orK .u64 s1.1 ((shlK .u64 ((((x1 &&& (127 : UInt8))).toNat : Int)) ((7 * s1.2))))))))), (6, (vi s1.2)), (7, (vu x1)), (8, (.s (List.map cU8 p_b))), (9, (vi ((p_b.length : Int)))), (10, (vi s1.2)), (30, (vb ((decide ((x1.toNat : Int) ≥ 128)))))]) (H' := []) ⟨Le.refl _, Le.refl _, Le.refl _, Le.refl _, Le.refl _, Le.refl _, Le.refl _, Le.refl _, True.intro⟩ True.intro rfl) ?_
        refine Ok.cond (d := 30) (b := (decide ((x1.toNat : Int) ≥ 128))) rfl hB1 (fun hb hB1 => ?_) fun hb hB1 => ?_
        · refine Ok.exit ?_
          refine Ok.region Tryz.tok ?_
          obtain ⟨hc3, hB1⟩ := chk_some hB1
          refine (Or.inl ⟨hc3, ?_⟩)
          exact ⟨_, (Option.some.inj hB1).symm, Wk.tab ⟨Le.refl _, Le.refl _, Le.refl _, Le.refl _, Le.refl _, True.intro⟩ True.intro rfl⟩
        · refine Ok.skip ?_
          refine Ok.seq ?_
          obtain ⟨v3, hv3, hB1⟩ := bindS hB1
          refine Ok.seqw ⟨Cat.tab [(0, (.s (List.map cU8 p_b))), (5, (.v (.int .u64 ((orK .u64 s1.1 ((shlK .u64 ((((x1 &&& (127 : UInt8))).toNat : Int)) ((7 * s1.2))))))))), (6, (vi s1.2)), (36, (vb v3))], []⟩ ?_ ?_
          · refine Ok.region Tryz.tok ?_
            obtain ⟨c2, hg2, hv3⟩ := bindS hv3
            refine Br.ite hg2 (fun hb hg2 => ?_) fun hb hg2 => ?_
            · cases hg2
              cases hv3
              exact Wk.tab ⟨Le.refl _, Le.refl _, Le.refl _, Le.refl _, True.intro⟩ True.intro rfl
            · cases hg2
              cases hv3
              exact Wk.tab ⟨Le.refl _, Le.refl _, Le.refl _, Le.refl _, True.intro⟩ True.intro rfl
          refine Ok.cond (d := 36) (b := v3) rfl hB1 (fun hb hB1 => ?_) fun hb hB1 => ?_
          · refine Ok.seq ?_
            refine Ok.region Tryz.tok ?_
            refine Ok.wk (Wk.tab (L := [(2, (vi (0))), (3, (.v (.slice none 0 0))), (4, (vi (11)))]) (H' := []) ⟨Le.refl _, Le.refl _, Le.refl _, True.intro⟩ True.intro rfl) ?_
            refine Ok.ret ?_
            have hB1 := out_ret hB1 hy1
            cases hB1
            exact (Fz.t (.cons Fz.v (.cons Fz.nil (.cons Fz.v .nil))))
          · refine Ok.skip ?_
            refine Ok.seq ?_
            refine Ok.draw (m := 15) (MD := ⟨[]⟩) (CH := ⟨[]⟩) Tryz.tok Tryz.mixed (by kernel_rfl) ?_
            obtain ⟨hc4, hB1⟩ := chk_some hB1
            obtain ⟨hc5, hB1⟩ := chk_some hB1
            obtain ⟨hc6, hB1⟩ := chk_some hB1
            refine ⟨_, rfl, ⟨_, ⟨(by decide), _, rfl, rfl⟩, ⟨_, ⟨_, rfl, rfl⟩, ⟨_, rfl, ⟨_, ⟨_, rfl, rfl⟩, ⟨_, ⟨_, rfl, rfl⟩, ⟨_, ⟨_, InI64.wrap hc4, rfl⟩, ⟨_, ⟨_, rfl, rfl⟩, ⟨_, rfl, ⟨_, rfl, ⟨_, (Or.inl ⟨hc5, rfl⟩), ⟨_, ⟨_, sl_nat hc6.1, sl_len hc6, Nat.le_refl _, rowsK (f := cU8) (K := 1) (fun _ => rfl) p_b, _, sl_drop _ _ _, rfl⟩, ⟨_, rfl, ⟨_, rfl, ⟨_, rfl, ⟨True.intro, ?_⟩⟩⟩⟩⟩⟩⟩⟩⟩⟩⟩⟩⟩⟩⟩⟩
            refine Ok.wk (Wk.tab (L := [(2, (vi ((xorK .i64 ((IntKind.i64.wrap ((shrK .u64 ((orK .u64 s1.1 ((shlK .u64 ((((x1 &&& (127 : UInt8))).toNat : Int)) ((7 * s1.2)))))) (1))))) ((0 - (IntKind.i64.wrap ((andK .u64 ((orK .u64 s1.1 ((shlK .u64 ((((x1 &&& (127 : UInt8))).toNat : Int)) ((7 * s1.2)))))) (1)))))))))), (3, (.s (List.map cU8 ((p_b.drop ((s1.2 + 1)).toNat))))), (4, (vi (0)))]) (H' := []) ⟨Le.refl _, Le.refl _, Le.refl _, True.intro⟩ True.intro rfl) ?_
            refine Ok.ret ?_
            have hB1 := out_ret hB1 hy1
            cases hB1
            exact (Fz.t (.cons Fz.v (.cons Fz.s (.cons Fz.v .nil))))
    · refine Ok.exit ?_
      have hB1 := out_ret hB1 hy1
      exact ⟨_, hB1, Wk.tab True.intro True.intro rfl⟩
  intro v1 h
  unfold pack_ReadInt_J1 at h
  refine Ok.seq ?_
  refine Ok.region Tryz.tok ?_
  refine Ok.wk (Wk.tab (L := [(2, (vi (0))), (3, (.v (.slice none 0 0))), (4, (vi (10)))]) (H' := []) ⟨Le.refl _, Le.refl _, Le.refl _, True.intro⟩ True.intro rfl) ?_
  refine Ok.ret ?_
  cases h
  exact (Fz.t (.cons Fz.v (.cons Fz.nil (.cons Fz.v .nil))))

theorem w_chunk_take_int__pack_ReadInt {self : chunk_reader} {r : Int × chunk_reader} (h : chunk_take_int__pack_ReadInt self = some r) : PChg Tryz.prog 89 [(.b 1000 0), (.c (.func 90) [] [])] (.box [(.s (List.map cU8 self.b_)), (vb self.bad_)]) (fun x c => x = (vi r.1) ∧ c = .box [(.s (List.map cU8 r.2.b_)), (vb r.2.bad_)]) := by
  refine pchg_of_ok (n := 36) (c := (Tryz.f89.body.getD .skip)) Tryz.tok Tryz.func89 (by kernel_rfl) rfl rfl (Nat.le_of_ble_eq_true rfl) ?_
  unfold chunk_take_int__pack_ReadInt at h
  refine Ok.wk (Wk.tab (L := [(0, (.b 1000 0)), (1, (.c (.func 90) [] []))]) (H' := [(1000, .box [(.s (List.map cU8 self.b_)), (vb self.bad_)])]) ⟨Le.refl _, Le.refl _, True.intro⟩ ⟨⟨_, rfl, .refl _⟩, True.intro⟩ rfl) ?_
  refine Ok.seq ?_
  refine Ok.region Tryz.tok ?_
  refine Ok.wk (Wk.tab (L := [(0, (.b 1000 0)), (1, (.c (.func 90) [] []))]) (H' := [(1000, .box [(.s (List.map cU8 self.b_)), (vb self.bad_)])]) ⟨Le.refl _, Le.refl _, True.intro⟩ ⟨⟨_, rfl, .refl _⟩, True.intro⟩ rfl) ?_
  refine Ok.seq ?_
  refine Ok.region Tryz.tok ?_
  obtain ⟨x1, hx1, h⟩ := bindS h
  refine ⟨_, rfl, ?_⟩
  refine CallOk.call (w_pack_ReadInt hx1) (LeL.refl _) ?_
  refine Ok.wk (Wk.tab (L := [(0, (.b 1000 0)), (5, (vi x1.1)), (6, (.s (List.map cU8 x1.2.1))), (7, (vi x1.2.2))]) (H' := [(1000, .box [(.s (List.map cU8 self.b_)), (vb self.bad_)])]) ⟨Le.refl _, Le.refl _, Le.refl _, Le.refl _, True.intro⟩ ⟨⟨_, rfl, .refl _⟩, True.intro⟩ rfl) ?_
  refine Ok.seq ?_
  obtain ⟨v1, hv1, h⟩ := bindS h
  refine Ok.seqw ⟨Cat.tab [(0, (.b 1000 0)), (5, (vi x1.1)), (6, (.s (List.map cU8 x1.2.1))), (26, (vb v1))], [(1000, .box [(.s (List.map cU8 self.b_)), (vb self.bad_)])]⟩ ?_ ?_
  · refine Ok.region Tryz.tok ?_
    refine ⟨_, rfl, ?_⟩
    obtain ⟨c1, hg1, hv1⟩ := bindS hv1
    refine Br.itf hg1 (fun hb hg1 => ?_) fun hb hg1 => ?_
    · cases hg1
      cases hv1
      exact Wk.tab ⟨Le.refl _, Le.refl _, Le.refl _, Le.refl _, True.intro⟩ ⟨⟨_, rfl, .refl _⟩, True.intro⟩ rfl
    · cases hg1
      cases hv1
      exact Wk.tab ⟨Le.refl _, Le.refl _, Le.refl _, Le.refl _, True.intro⟩ ⟨⟨_, rfl, .refl _⟩, True.intro⟩ rfl
  refine Ok.cond (d := 26) (b := v1) rfl h (fun hb h => ?_) fun hb h => ?_
  · refine Ok.seq ?_
    refine Ok.region Tryz.tok ?_
    refine ⟨_, rfl, ?_⟩
    refine Ok.wk (Wk.tab (L := []) (H' := [(1000, .box [(.s (List.map cU8 self.b_)), (vb true)])]) True.intro ⟨⟨_, rfl, .refl _⟩, True.intro⟩ rfl) ?_
    refine Ok.seq ?_
    refine Ok.region Tryz.tok ?_
    refine Ok.wk (Wk.tab (L := [(8, (vi (0)))]) (H' := [(1000, .box [(.s (List.map cU8 self.b_)), (vb true)])]) ⟨Le.refl _, True.intro⟩ ⟨⟨_, rfl, .refl _⟩, True.intro⟩ rfl) ?_
    refine Ok.seq ?_
    refine Ok.region Tryz.tok ?_
    refine Ok.wk (Wk.tab (L := [(4, (vi (0)))]) (H' := [(1000, .box [(.s (List.map cU8 self.b_)), (vb true)])]) ⟨Le.refl _, True.intro⟩ ⟨⟨_, rfl, .refl _⟩, True.intro⟩ rfl) ?_
    refine Ok.ret ?_
    cases h
    exact ⟨_, _, ⟨rfl, rfl⟩, rfl, rfl, Fz.v⟩
  · refine Ok.skip ?_
    refine Ok.seq ?_
    refine Ok.region Tryz.tok ?_
    refine ⟨_, rfl, ?_⟩
    refine Ok.wk (Wk.tab (L := [(5, (vi x1.1))]) (H' := [(1000, .box [(.s (List.map cU8 x1.2.1)), (vb self.bad_)])]) ⟨Le.refl _, True.intro⟩ ⟨⟨_, rfl, .refl _⟩, True.intro⟩ rfl) ?_
    refine Ok.seq ?_
    refine Ok.region Tryz.tok ?_
    refine Ok.wk (Wk.tab (L := [(4, (vi x1.1))]) (H' := [(1000, .box [(.s (List.map cU8 x1.2.1)), (vb self.bad_)])]) ⟨Le.refl _, True.intro⟩ ⟨⟨_, rfl, .refl _⟩, True.intro⟩ rfl) ?_
    refine Ok.ret ?_
    cases h
    exact ⟨_, _, ⟨rfl, rfl⟩, rfl, rfl, Fz.v⟩

theorem w_chunk_reader_int {self : chunk_reader} {r : Int × chunk_reader} (h : chunk_reader_int self = some r) : PChg Tryz.prog 61 [(.b 1000 0)] (.box [(.s (List.map cU8 self.b_)), (vb self.bad_)]) (fun x c => x = (vi r.1) ∧ c = .box [(.s (List.map cU8 r.2.b_)), (vb r.2.bad_)]) := by
  refine pchg_of_ok (n := 5) (c := (Tryz.f61.body.getD .skip)) Tryz.tok Tryz.func61 (by kernel_rfl) rfl rfl (Nat.le_of_ble_eq_true rfl) ?_
  unfold chunk_reader_int at h
  refine Ok.wk (Wk.tab (L := [(0, (.b 1000 0))]) (H' := [(1000, .box [(.s (List.map cU8 self.b_)), (vb self.bad_)])]) ⟨Le.refl _, True.intro⟩ ⟨⟨_, rfl, .refl _⟩, True.intro⟩ rfl) ?_
  refine Ok.seq ?_
  refine Ok.region Tryz.tok ?_
  refine Ok.wk (Wk.tab (L := [(0, (.b 1000 0))]) (H' := [(1000, .box [(.s (List.map cU8 self.b_)), (vb self.bad_)])]) ⟨Le.refl _, True.intro⟩ ⟨⟨_, rfl, .refl _⟩, True.intro⟩ rfl) ?_
  refine Ok.seq ?_
  refine Ok.region Tryz.tok ?_
  obtain ⟨x1, hx1, h⟩ := bindS h
  refine CallOk.chgLe (id := 1000) (w_chunk_take_int__pack_ReadInt hx1) rfl (.box (.cons (Le.refl _) (.cons (Le.refl _) (.nil)))) rfl (.cons (Lr.b) (.cons (Lr.imm rfl) (.nil))) ?_
  rintro _ _ ⟨rfl, rfl⟩
  refine Ok.wk (Wk.tab (L := [(2, (vi x1.1))]) (H' := [(1000, .box [(.s (List.map cU8 x1.2.b_)), (vb x1.2.bad_)])]) ⟨Le.refl _, True.intro⟩ ⟨⟨_, rfl, .refl _⟩, True.intro⟩ rfl) ?_
  refine Ok.ret ?_
  cases h
  exact ⟨_, _, ⟨rfl, rfl⟩, rfl, rfl, Fz.v⟩

theorem w_pack_reader_num {self : pack_reader} {r : Int × pack_reader} (h : pack_reader_num self = some r) : PChg Tryz.prog 93 [(.b 1000 0)] (.box [(.s (List.map cU8 self.rest_.b_)), (vi self.e_)]) (fun x c => x = (vi r.1) ∧ c = .box [(.s (List.map cU8 r.2.rest_.b_)), (vi r.2.e_)]) := by
  refine pchg_of_ok (n := 31) (c := (Tryz.f93.body.getD .skip)) Tryz.tok Tryz.func93 (by kernel_rfl) rfl rfl (Nat.le_of_ble_eq_true rfl) ?_
  unfold pack_reader_num at h
  refine Ok.wk (Wk.tab (L := [(0, (.b 1000 0))]) (H' := [(1000, .box [(.s (List.map cU8 self.rest_.b_)), (vi self.e_)])]) ⟨Le.refl _, True.intro⟩ ⟨⟨_, rfl, .refl _⟩, True.intro⟩ rfl) ?_
  refine Ok.seq ?_
  refine Ok.region Tryz.tok ?_
  refine Ok.wk (Wk.tab (L := [(0, (.b 1000 0))]) (H' := [(1000, .box [(.s (List.map cU8 self.rest_.b_)), (vi self.e_)])]) ⟨Le.refl _, True.intro⟩ ⟨⟨_, rfl, .refl _⟩, True.intro⟩ rfl) ?_
  refine Ok.seq ?_
  refine Ok.seq ?_
  refine Ok.region Tryz.tok ?_
  refine ⟨_, rfl, ?_⟩
  refine Ok.wk (Wk.tab (L := [(0, (.b 1000 0)), (10, (vb ((self.e_ != 0))))]) (H' := [(1000, .box [(.s (List.map cU8 self.rest_.b_)), (vi self.e_)])]) ⟨Le.refl _, Le.refl _, True.intro⟩ ⟨⟨_, rfl, .refl _⟩, True.intro⟩ rfl) ?_
  refine Ok.cond (d := 10) (b := (self.e_ != 0)) rfl h (fun hb h => ?_) fun hb h => ?_
  · refine Ok.seq ?_
    refine Ok.region Tryz.tok ?_
    refine Ok.wk (Wk.tab (L := [(2, (vi (0)))]) (H' := [(1000, .box [(.s (List.map cU8 self.rest_.b_)), (vi self.e_)])]) ⟨Le.refl _, True.intro⟩ ⟨⟨_, rfl, .refl _⟩, True.intro⟩ rfl) ?_
    refine Ok.ret ?_
    cases h
    exact ⟨_, _, ⟨rfl, rfl⟩, rfl, rfl, Fz.v⟩
  · refine Ok.skip ?_
    refine Ok.seq ?_
    refine Ok.region Tryz.tok ?_
    obtain ⟨x1, hx1, h⟩ := bindS h
    refine ⟨_, rfl, ?_⟩
    refine CallOk.call (w_pack_ReadInt hx1) (LeL.refl _) ?_
    refine Ok.wk (Wk.tab (L := [(0, (.b 1000 0)), (3, (vi x1.1)), (4, (.s (List.map cU8 x1.2.1))), (5, (vi x1.2.2))]) (H' := [(1000, .box [(.s (List.map cU8 self.rest_.b_)), (vi self.e_)])]) ⟨Le.refl _, Le.refl _, Le.refl _, Le.refl _, True.intro⟩ ⟨⟨_, rfl, .refl _⟩, True.intro⟩ rfl) ?_
    refine Ok.seq ?_
    refine Ok.region Tryz.tok ?_
    refine ⟨_, rfl, ⟨_, rfl, ?_⟩⟩
    refine Ok.wk (Wk.tab (L := [(3, (vi x1.1))]) (H' := [(1000, .box [(.s (List.map cU8 x1.2.1)), (vi x1.2.2)])]) ⟨Le.refl _, True.intro⟩ ⟨⟨_, rfl, .refl _⟩, True.intro⟩ rfl) ?_
    refine Ok.seq ?_
    refine Ok.region Tryz.tok ?_
    refine Ok.wk (Wk.tab (L := [(2, (vi x1.1))]) (H' := [(1000, .box [(.s (List.map cU8 x1.2.1)), (vi x1.2.2)])]) ⟨Le.refl _, True.intro⟩ ⟨⟨_, rfl, .refl _⟩, True.intro⟩ rfl) ?_
    refine Ok.ret ?_
    cases h
    exact ⟨_, _, ⟨rfl, rfl⟩, rfl, rfl, Fz.v⟩

theorem w_pack_reader_count {self : pack_reader} {r : Int × pack_reader} (h : pack_reader_count self = some r) : PChg Tryz.prog 92 [(.b 1000 0)] (.box [(.s (List.map cU8 self.rest_.b_)), (vi self.e_)]) (fun x c => x = (vi r.1) ∧ c = .box [(.s (List.map cU8 r.2.rest_.b_)), (vi r.2.e_)]) := by
  refine pchg_of_ok (n := 31) (c := (Tryz.f92.body.getD .skip)) Tryz.tok Tryz.func92 (by kernel_rfl) rfl rfl (Nat.le_of_ble_eq_true rfl) ?_
  unfold pack_reader_count at h
  refine Ok.wk (Wk.tab (L := [(0, (.b 1000 0))]) (H' := [(1000, .box [(.s (List.map cU8 self.rest_.b_)), (vi self.e_)])]) ⟨Le.refl _, True.intro⟩ ⟨⟨_, rfl, .refl _⟩, True.intro⟩ rfl) ?_
  refine Ok.seq ?_
  refine Ok.region Tryz.tok ?_
  refine Ok.wk (Wk.tab (L := [(0, (.b 1000 0))]) (H' := [(1000, .box [(.s (List.map cU8 self.rest_.b_)), (vi self.e_)])]) ⟨Le.refl _, True.intro⟩ ⟨⟨_, rfl, .refl _⟩, True.intro⟩ rfl) ?_
  refine Ok.seq ?_
  refine Ok.region Tryz.tok ?_
  obtain ⟨x1, hx1, h⟩ := bindS h
  refine CallOk.chgLe (id := 1000) (w_pack_reader_num hx1) rfl (.box (.cons (Le.refl _) (.cons (Le.refl _) (.nil)))) rfl (.cons (Lr.b) (.nil)) ?_
  rintro _ _ ⟨rfl, rfl⟩
  refine Ok.wk (Wk.tab (L := [(0, (.b 1000 0)), (3, (vi x1.1))]) (H' := [(1000, .box [(.s (List.map cU8 x1.2.rest_.b_)), (vi x1.2.e_)])]) ⟨Le.refl _, Le.refl _, True.intro⟩ ⟨⟨_, rfl, .refl _⟩, True.intro⟩ rfl) ?_
  refine Ok.seqj (fun v1 => ⟨Cat.tab [], [(1000, .box [(.s (List.map cU8 x1.2.rest_.b_)), (vi v1)])]⟩) (fun v1 => pack_reader_count_J1 x1 v1 = some r) ?_ ?_
  · refine Ok.block ?_
    refine Ok.seq ?_
    refine Ok.region Tryz.tok ?_
    refine ⟨_, rfl, ?_⟩
    refine Ok.wk (Wk.tab (L := [(0, (.b 1000 0)), (3, (vi x1.1)), (7, (vb ((x1.2.e_ != 0))))]) (H' := [(1000, .box [(.s (List.map cU8 x1.2.rest_.b_)), (vi x1.2.e_)])]) ⟨Le.refl _, Le.refl _, Le.refl _, True.intro⟩ ⟨⟨_, rfl, .refl _⟩, True.intro⟩ rfl) ?_
    refine Ok.cond (d := 7) (b := (x1.2.e_ != 0)) rfl h (fun hb h => ?_) fun hb h => ?_
    · refine Ok.seq ?_
      refine Ok.region Tryz.tok ?_
      refine Ok.wk (Wk.tab (L := [(2, (vi (0)))]) (H' := [(1000, .box [(.s (List.map cU8 x1.2.rest_.b_)), (vi x1.2.e_)])]) ⟨Le.refl _, True.intro⟩ ⟨⟨_, rfl, .refl _⟩, True.intro⟩ rfl) ?_
      refine Ok.ret ?_
      cases h
      exact ⟨_, _, ⟨rfl, rfl⟩, rfl, rfl, Fz.v⟩
    · refine Ok.seq ?_
      refine Ok.region Tryz.tok ?_
      refine Ok.wk (Wk.tab (L := [(0, (.b 1000 0)), (3, (vi x1.1)), (13, (vb ((decide (x1.1 < 0)))))]) (H' := [(1000, .box [(.s (List.map cU8 x1.2.rest_.b_)), (vi x1.2.e_)])]) ⟨Le.refl _, Le.refl _, Le.refl _, True.intro⟩ ⟨⟨_, rfl, .refl _⟩, True.intro⟩ rfl) ?_
      refine Ok.cond (d := 13) (b := (decide (x1.1 < 0))) rfl h (fun hb h => ?_) fun hb h => ?_
      · refine Ok.region Tryz.tok ?_
        refine ⟨_, rfl, ?_⟩
        exact ⟨_, h, Wk.tab True.intro ⟨⟨_, rfl, .refl _⟩, True.intro⟩ rfl⟩
      · refine Ok.seq ?_
        refine Ok.region Tryz.tok ?_
        refine ⟨_, rfl, ⟨_, List.length_map _, fun _ => ?_⟩⟩
        refine Ok.wk (Wk.tab (L := [(0, (.b 1000 0)), (3, (vi x1.1)), (19, (vb ((decide (x1.1 > (x1.2.rest_.b_.length : Int))))))]) (H' := [(1000, .box [(.s (List.map cU8 x1.2.rest_.b_)), (vi x1.2.e_)])]) ⟨Le.refl _, Le.refl _, Le.refl _, True.intro⟩ ⟨⟨_, rfl, .refl _⟩, True.intro⟩ rfl) ?_
        refine Ok.cond (d := 19) (b := (decide (x1.1 > (x1.2.rest_.b_.length : Int)))) rfl h (fun hb h => ?_) fun hb h => ?_
        · refine Ok.region Tryz.tok ?_
          refine ⟨_, rfl, ?_⟩
          exact ⟨_, h, Wk.tab True.intro ⟨⟨_, rfl, .refl _⟩, True.intro⟩ rfl⟩
        · refine Ok.seq ?_
          refine Ok.region Tryz.tok ?_
          refine Ok.wk (Wk.tab (L := [(2, (vi x1.1))]) (H' := [(1000, .box [(.s (List.map cU8 x1.2.rest_.b_)), (vi x1.2.e_)])]) ⟨Le.refl _, True.intro⟩ ⟨⟨_, rfl, .refl _⟩, True.intro⟩ rfl) ?_
          refine Ok.ret ?_
          cases h
          exact ⟨_, _, ⟨rfl, rfl⟩, rfl, rfl, Fz.v⟩
  intro v1 h
  unfold pack_reader_count_J1 at h
  refine Ok.seq ?_
  refine Ok.region Tryz.tok ?_
  refine Ok.wk (Wk.tab (L := [(2, (vi (0)))]) (H' := [(1000, .box [(.s (List.map cU8 x1.2.rest_.b_)), (vi v1)])]) ⟨Le.refl _, True.intro⟩ ⟨⟨_, rfl, .refl _⟩, True.intro⟩ rfl) ?_
  refine Ok.ret ?_
  cases h
  exact ⟨_, _, ⟨rfl, rfl⟩, rfl, rfl, Fz.v⟩

theorem w_pack_rest_take {self : pack_reader} {p_n : Int} {r : ((List UInt8)) × pack_reader} (h : pack_rest_take self p_n = some r) : PChg Tryz.prog 114 [(.b 1000 0), (vi p_n)] (.box [(.s (List.map cU8 self.rest_.b_)), (vi self.e_)]) (fun x c => x = (.s (List.map cU8 r.1)) ∧ c = .box [(.s (List.map cU8 r.2.rest_.b_)), (vi r.2.e_)]) := by
  refine pchg_of_ok (n := 22) (c := (Tryz.f114.body.getD .skip)) Tryz.tok Tryz.func114 (by kernel_rfl) rfl rfl (Nat.le_of_ble_eq_true rfl) ?_
  unfold pack_rest_take at h
  refine Ok.wk (Wk.tab (L := [(0, (.b 1000 0)), (1, (vi p_n))]) (H' := [(1000, .box [(.s (List.map cU8 self.rest_.b_)), (vi self.e_)])]) ⟨Le.refl _, Le.refl _, True.intro⟩ ⟨⟨_, rfl, .refl _⟩, True.intro⟩ rfl) ?_
  refine Ok.seq ?_
  refine Ok.region Tryz.tok ?_
  refine Ok.wk (Wk.tab (L := [(0, (.b 1000 0)), (1, (vi p_n))]) (H' := [(1000, .box [(.s (List.map cU8 self.rest_.b_)), (vi self.e_)])]) ⟨Le.refl _, Le.refl _, True.intro⟩ ⟨⟨_, rfl, .refl _⟩, True.intro⟩ rfl) ?_
  refine Ok.seq ?_
  refine Ok.region Tryz.tok ?_
  obtain ⟨hc1, h⟩ := chk_some h
  refine ⟨_, rfl, ⟨_, sl_nat hc1.1, Nat.zero_le _, sl_len hc1, rowsK (f := cU8) (K := 1) (fun _ => rfl) self.rest_.b_, _, sl_take _ _ _, ?_⟩⟩
  refine Ok.wk (Wk.tab (L := [(0, (.b 1000 0)), (1, (vi p_n)), (5, (.s (List.map cU8 ((self.rest_.b_.take p_n.toNat)))))]) (H' := [(1000, .box [(.s (List.map cU8 self.rest_.b_)), (vi self.e_)])]) ⟨Le.refl _, Le.refl _, Le.refl _, True.intro⟩ ⟨⟨_, rfl, .refl _⟩, True.intro⟩ rfl) ?_
  refine Ok.seq ?_
  refine Ok.region Tryz.tok ?_
  obtain ⟨hc2, h⟩ := chk_some h
  refine ⟨_, rfl, ⟨_, sl_nat hc2.1, sl_len hc2, Nat.le_refl _, rowsK (f := cU8) (K := 1) (fun _ => rfl) self.rest_.b_, _, sl_drop _ _ _, ⟨_, rfl, ?_⟩⟩⟩
  refine Ok.wk (Wk.tab (L := [(5, (.s (List.map cU8 ((self.rest_.b_.take p_n.toNat)))))]) (H' := [(1000, .box [(.s (List.map cU8 ((self.rest_.b_.drop p_n.toNat)))), (vi self.e_)])]) ⟨Le.refl _, True.intro⟩ ⟨⟨_, rfl, .refl _⟩, True.intro⟩ rfl) ?_
  refine Ok.seq ?_
  refine Ok.region Tryz.tok ?_
  refine Ok.wk (Wk.tab (L := [(4, (.s (List.map cU8 ((self.rest_.b_.take p_n.toNat)))))]) (H' := [(1000, .box [(.s (List.map cU8 ((self.rest_.b_.drop p_n.toNat)))), (vi self.e_)])]) ⟨Le.refl _, True.intro⟩ ⟨⟨_, rfl, .refl _⟩, True.intro⟩ rfl) ?_
  refine Ok.ret ?_
  cases h
  exact ⟨_, _, ⟨rfl, rfl⟩, rfl, rfl, Fz.s⟩

theorem w_pack_reader_str {self : pack_reader} {r : ((List UInt8)) × pack_reader} (h : pack_reader_str self = some r) : PChg Tryz.prog 91 [(.b 1000 0)] (.box [(.s (List.map cU8 self.rest_.b_)), (vi self.e_)]) (fun x c => x = (vs r.1) ∧ c = .box [(.s (List.map cU8 r.2.rest_.b_)), (vi r.2.e_)]) := by
  refine pchg_of_ok (n := 17) (c := (Tryz.f91.body.getD .skip)) Tryz.tok Tryz.func91 (by kernel_rfl) rfl rfl (Nat.le_of_ble_eq_true rfl) ?_
  unfold pack_reader_str at h
  refine Ok.wk (Wk.tab (L := [(0, (.b 1000 0))]) (H' := [(1000, .box [(.s (List.map cU8 self.rest_.b_)), (vi self.e_)])]) ⟨Le.refl _, True.intro⟩ ⟨⟨_, rfl, .refl _⟩, True.intro⟩ rfl) ?_
  refine Ok.seq ?_
  refine Ok.region Tryz.tok ?_
  refine Ok.wk (Wk.tab (L := [(0, (.b 1000 0))]) (H' := [(1000, .box [(.s (List.map cU8 self.rest_.b_)), (vi self.e_)])]) ⟨Le.refl _, True.intro⟩ ⟨⟨_, rfl, .refl _⟩, True.intro⟩ rfl) ?_
  refine Ok.seq ?_
  refine Ok.region Tryz.tok ?_
  obtain ⟨x1, hx1, h⟩ := bindS h
  refine CallOk.chgLe (id := 1000) (w_pack_reader_count hx1) rfl (.box (.cons (Le.refl _) (.cons (Le.refl _) (.nil)))) rfl (.cons (Lr.b) (.nil)) ?_
  rintro _ _ ⟨rfl, rfl⟩
  refine Ok.wk (Wk.tab (L := [(0, (.b 1000 0)), (3, (vi x1.1))]) (H' := [(1000, .box [(.s (List.map cU8 x1.2.rest_.b_)), (vi x1.2.e_)])]) ⟨Le.refl _, Le.refl _, True.intro⟩ ⟨⟨_, rfl, .refl _⟩, True.intro⟩ rfl) ?_
  refine Ok.seq ?_
  refine Ok.seq ?_
  refine Ok.region Tryz.tok ?_
  refine ⟨_, rfl, ?_⟩
  refine Ok.wk (Wk.tab (L := [(0, (.b 1000 0)), (3, (vi x1.1)), (10, (vb ((x1.2.e_ != 0))))]) (H' := [(1000, .box [(.s (List.map cU8 x1.2.rest_.b_)), (vi x1.2.e_)])]) ⟨Le.refl _, Le.refl _, Le.refl _, True.intro⟩ ⟨⟨_, rfl, .refl _⟩, True.intro⟩ rfl) ?_
  refine Ok.cond (d := 10) (b := (x1.2.e_ != 0)) rfl h (fun hb h => ?_) fun hb h => ?_
  · refine Ok.seq ?_
    refine Ok.region Tryz.tok ?_
    refine Ok.wk (Wk.tab (L := [(2, (vs ([])))]) (H' := [(1000, .box [(.s (List.map cU8 x1.2.rest_.b_)), (vi x1.2.e_)])]) ⟨Le.refl _, True.intro⟩ ⟨⟨_, rfl, .refl _⟩, True.intro⟩ rfl) ?_
    refine Ok.ret ?_
    cases h
    exact ⟨_, _, ⟨rfl, rfl⟩, rfl, rfl, Fz.v⟩
  · refine Ok.skip ?_
    refine Ok.seq ?_
    refine Ok.region Tryz.tok ?_
    obtain ⟨x2, hx2, h⟩ := bindS h
    refine CallOk.chgLe (id := 1000) (w_pack_rest_take hx2) rfl (.box (.cons (Le.refl _) (.cons (Le.refl _) (.nil)))) rfl (.cons (Lr.b) (.cons (Lr.imm rfl) (.nil))) ?_
    rintro _ _ ⟨rfl, rfl⟩
    refine ⟨_, rfl, ?_⟩
    refine Ok.wk (Wk.tab (L := [(2, (vs x2.1))]) (H' := [(1000, .box [(.s (List.map cU8 x2.2.rest_.b_)), (vi x2.2.e_)])]) ⟨Le.refl _, True.intro⟩ ⟨⟨_, rfl, .refl _⟩, True.intro⟩ rfl) ?_
    refine Ok.ret ?_
    cases h
    exact ⟨_, _, ⟨rfl, rfl⟩, rfl, rfl, Fz.v⟩

theorem w_pack_ReadStr {p_b : List UInt8} {r : (List UInt8) × (List UInt8) × Int} (h : pack_ReadStr p_b = some r) : Pure Tryz.prog 63 [(.s (List.map cU8 p_b))] (.t [(vs r.1), (.s (List.map cU8 r.2.1)), (vi r.2.2)]) := by
  refine pure_of_ok (n := 28) (c := (Tryz.f63.body.getD .skip)) Tryz.tok Tryz.func63 (by kernel_rfl) rfl rfl (Nat.le_of_ble_eq_true rfl) ?_
  unfold pack_ReadStr at h
  refine Ok.wk (Wk.tab (L := [(0, (.s (List.map cU8 p_b)))]) (H' := []) ⟨Le.refl _, True.intro⟩ True.intro rfl) ?_
  refine Ok.seq ?_
  refine Ok.region Tryz.tok ?_
  refine Ok.wk (Wk.tab (L := [(0, (.s (List.map cU8 p_b)))]) (H' := []) ⟨Le.refl _, True.intro⟩ True.intro rfl) ?_
  refine Ok.seq ?_
  refine Ok.region Tryz.tok ?_
  refine Ok.wk (Wk.tab (L := [(5, (.b 10 0))]) (H' := [(10, .box [(.s (List.map cU8 p_b)), (vi (0))])]) ⟨Le.refl _, True.intro⟩ ⟨⟨_, rfl, .refl _⟩, True.intro⟩ rfl) ?_
  refine Ok.seq ?_
  refine Ok.region Tryz.tok ?_
  obtain ⟨x1, hx1, h⟩ := bindS h
  refine CallOk.chgLe (id := 10) (w_pack_reader_str hx1) rfl (.box (.cons (Le.refl _) (.cons (Le.refl _) (.nil)))) rfl (.cons (Lr.b) (.nil)) ?_
  rintro _ _ ⟨rfl, rfl⟩
  refine Ok.wk (Wk.tab (L := [(5, (.b 10 0)), (6, (vs x1.1))]) (H' := [(10, .box [(.s (List.map cU8 x1.2.rest_.b_)), (vi x1.2.e_)])]) ⟨Le.refl _, Le.refl _, True.intro⟩ ⟨⟨_, rfl, .refl _⟩, True.intro⟩ rfl) ?_
  refine Ok.seq ?_
  refine Ok.seq ?_
  refine Ok.region Tryz.tok ?_
  refine ⟨_, rfl, ?_⟩
  refine Ok.wk (Wk.tab (L := [(5, (.b 10 0)), (6, (vs x1.1)), (17, (vb ((x1.2.e_ != 0))))]) (H' := [(10, .box [(.s (List.map cU8 x1.2.rest_.b_)), (vi x1.2.e_)])]) ⟨Le.refl _, Le.refl _, Le.refl _, True.intro⟩ ⟨⟨_, rfl, .refl _⟩, True.intro⟩ rfl) ?_
  refine Ok.cond (d := 17) (b := (x1.2.e_ != 0)) rfl h (fun hb h => ?_) fun hb h => ?_
  · refine Ok.seq ?_
    refine Ok.draw (m := 7) (MD := ⟨[]⟩) (CH := ⟨[]⟩) Tryz.tok Tryz.mixed (by kernel_rfl) ?_
    refine ⟨_, rfl, ⟨_, rfl, ⟨_, rfl, ⟨_, ⟨_, rfl, rfl⟩, ⟨_, rfl, ⟨_, rfl, ⟨_, rfl, ⟨True.intro, ?_⟩⟩⟩⟩⟩⟩⟩⟩
    refine Ok.wk (Wk.tab (L := [(2, (vs ([]))), (3, (.v (.slice none 0 0))), (4, (vi x1.2.e_))]) (H' := []) ⟨Le.refl _, Le.refl _, Le.refl _, True.intro⟩ True.intro rfl) ?_
    refine Ok.ret ?_
    cases h
    exact (Fz.t (.cons Fz.v (.cons Fz.nil (.cons Fz.v .nil))))
  · refine Ok.skip ?_
    refine Ok.seq ?_
    refine Ok.draw (m := 9) (MD := ⟨[]⟩) (CH := ⟨[]⟩) Tryz.tok Tryz.mixed (by kernel_rfl) ?_
    refine ⟨_, rfl, ⟨_, rfl, ⟨_, rfl, ⟨_, rfl, ⟨_, rfl, ⟨_, ⟨_, rfl, rfl⟩, ⟨_, rfl, ⟨_, rfl, ⟨_, rfl, ⟨True.intro, ?_⟩⟩⟩⟩⟩⟩⟩⟩⟩⟩
    refine Ok.wk (Wk.tab (L := [(2, (vs x1.1)), (3, (.s (List.map cU8 x1.2.rest_.b_))), (4, (vi (0)))]) (H' := []) ⟨Le.refl _, Le.refl _, Le.refl _, True.intro⟩ True.intro rfl) ?_
    refine Ok.ret ?_
    cases h
    exact (Fz.t (.cons Fz.v (.cons Fz.s (.cons Fz.v .nil))))

theorem w_chunk_take_string__pack_ReadStr {self : chunk_reader} {r : ((List UInt8)) × chunk_reader} (h : chunk_take_string__pack_ReadStr self = some r) : PChg Tryz.prog 62 [(.b 1000 0), (.c (.func 63) [] [])] (.box [(.s (List.map cU8 self.b_)), (vb self.bad_)]) (fun x c => x = (vs r.1) ∧ c = .box [(.s (List.map cU8 r.2.b_)), (vb r.2.bad_)]) := by
  refine pchg_of_ok (n := 36) (c := (Tryz.f62.body.getD .skip)) Tryz.tok Tryz.func62 (by kernel_rfl) rfl rfl (Nat.le_of_ble_eq_true rfl) ?_
  unfold chunk_take_string__pack_ReadStr at h
  refine Ok.wk (Wk.tab (L := [(0, (.b 1000 0)), (1, (.c (.func 63) [] []))]) (H' := [(1000, .box [(.s (List.map cU8 self.b_)), (vb self.bad_)])]) ⟨Le.refl _, Le.refl _, True.intro⟩ ⟨⟨_, rfl, .refl _⟩, True.intro⟩ rfl) ?_
  refine Ok.seq ?_
  refine Ok.region Tryz.tok ?_
  refine Ok.wk (Wk.tab (L := [(0, (.b 1000 0)), (1, (.c (.func 63) [] []))]) (H' := [(1000, .box [(.s (List.map cU8 self.b_)), (vb self.bad_)])]) ⟨Le.refl _, Le.refl _, True.intro⟩ ⟨⟨_, rfl, .refl _⟩, True.intro⟩ rfl) ?_
  refine Ok.seq ?_
  refine Ok.region Tryz.tok ?_
  obtain ⟨x1, hx1, h⟩ := bindS h
  refine ⟨_, rfl, ?_⟩
  refine CallOk.call (w_pack_ReadStr hx1) (LeL.refl _) ?_
  refine Ok.wk (Wk.tab (L := [(0, (.b 1000 0)), (5, (vs x1.1)), (6, (.s (List.map cU8 x1.2.1))), (7, (vi x1.2.2))]) (H' := [(1000, .box [(.s (List.map cU8 self.b_)), (vb self.bad_)])]) ⟨Le.refl _, Le.refl _, Le.refl _, Le.refl _, True.intro⟩ ⟨⟨_, rfl, .refl _⟩, True.intro⟩ rfl) ?_
  refine Ok.seq ?_
  obtain ⟨v1, hv1, h⟩ := bindS h
  refine Ok.seqw ⟨Cat.tab [(0, (.b 1000 0)), (5, (vs x1.1)), (6, (.s (List.map cU8 x1.2.1))), (26, (vb v1))], [(1000, .box [(.s (List.map cU8 self.b_)), (vb self.bad_)])]⟩ ?_ ?_
  · refine Ok.region Tryz.tok ?_
    refine ⟨_, rfl, ?_⟩
    obtain ⟨c1, hg1, hv1⟩ := bindS hv1
    refine Br.itf hg1 (fun hb hg1 => ?_) fun hb hg1 => ?_
    · cases hg1
      cases hv1
      exact Wk.tab ⟨Le.refl _, Le.refl _, Le.refl _, Le.refl _, True.intro⟩ ⟨⟨_, rfl, .refl _⟩, True.intro⟩ rfl
    · cases hg1
      cases hv1
      exact Wk.tab ⟨Le.refl _, Le.refl _, Le.refl _, Le.refl _, True.intro⟩ ⟨⟨_, rfl, .refl _⟩, True.intro⟩ rfl
  refine Ok.cond (d := 26) (b := v1) rfl h (fun hb h => ?_) fun hb h => ?_
  · refine Ok.seq ?_
    refine Ok.region Tryz.tok ?_
    refine ⟨_, rfl, ?_⟩
    refine Ok.wk (Wk.tab (L := []) (H' := [(1000, .box [(.s (List.map cU8 self.b_)), (vb true)])]) True.intro ⟨⟨_, rfl, .refl _⟩, True.intro⟩ rfl) ?_
    refine Ok.seq ?_
    refine Ok.region Tryz.tok ?_
    refine Ok.wk (Wk.tab (L := [(8, (vs ([])))]) (H' := [(1000, .box [(.s (List.map cU8 self.b_)), (vb true)])]) ⟨Le.refl _, True.intro⟩ ⟨⟨_, rfl, .refl _⟩, True.intro⟩ rfl) ?_
    refine Ok.seq ?_
    refine Ok.region Tryz.tok ?_
    refine Ok.wk (Wk.tab (L := [(4, (vs ([])))]) (H' := [(1000, .box [(.s (List.map cU8 self.b_)), (vb true)])]) ⟨Le.refl _, True.intro⟩ ⟨⟨_, rfl, .refl _⟩, True.intro⟩ rfl) ?_
    refine Ok.ret ?_
    cases h
    exact ⟨_, _, ⟨rfl, rfl⟩, rfl, rfl, Fz.v⟩
  · refine Ok.skip ?_
    refine Ok.seq ?_
    refine Ok.region Tryz.tok ?_
    refine ⟨_, rfl, ?_⟩
    refine Ok.wk (Wk.tab (L := [(5, (vs x1.1))]) (H' := [(1000, .box [(.s (List.map cU8 x1.2.1)), (vb self.bad_)])]) ⟨Le.refl _, True.intro⟩ ⟨⟨_, rfl, .refl _⟩, True.intro⟩ rfl) ?_
    refine Ok.seq ?_
    refine Ok.region Tryz.tok ?_
    refine Ok.wk (Wk.tab (L := [(4, (vs x1.1))]) (H' := [(1000, .box [(.s (List.map cU8 x1.2.1)), (vb self.bad_)])]) ⟨Le.refl _, True.intro⟩ ⟨⟨_, rfl, .refl _⟩, True.intro⟩ rfl) ?_
    refine Ok.ret ?_
    cases h
    exact ⟨_, _, ⟨rfl, rfl⟩, rfl, rfl, Fz.v⟩

theorem w_pack_ReadInts {p_b : List UInt8} {r : (List Int) × (List UInt8) × Int} (h : pack_ReadInts p_b = some r) : Pure Tryz.prog 65 [(.s (List.map cU8 p_b))] (.t [(.s (List.map Go.Cat.encI r.1)), (.s (List.map cU8 r.2.1)), (vi r.2.2)]) := by
  refine pure_of_ok (n := 41) (c := (Tryz.f65.body.getD .skip)) Tryz.tok Tryz.func65 (by kernel_rfl) rfl rfl (Nat.le_of_ble_eq_true rfl) ?_
  unfold pack_ReadInts at h
  refine Ok.wk (Wk.tab (L := [(0, (.s (List.map cU8 p_b)))]) (H' := []) ⟨Le.refl _, True.intro⟩ True.intro rfl) ?_
  refine Ok.seq ?_
  refine Ok.region Tryz.tok ?_
  refine Ok.wk (Wk.tab (L := [(0, (.s (List.map cU8 p_b)))]) (H' := []) ⟨Le.refl _, True.intro⟩ True.intro rfl) ?_
  refine Ok.seq ?_
  refine Ok.region Tryz.tok ?_
  refine Ok.wk (Wk.tab (L := [(5, (.b 10 0))]) (H' := [(10, .box [(.s (List.map cU8 p_b)), (vi (0))])]) ⟨Le.refl _, True.intro⟩ ⟨⟨_, rfl, .refl _⟩, True.intro⟩ rfl) ?_
  refine Ok.seq ?_
  refine Ok.region Tryz.tok ?_
  refine Ok.wk (Wk.tab (L := [(5, (.b 10 0)), (6, (.v (.slice none 0 0)))]) (H' := [(10, .box [(.s (List.map cU8 p_b)), (vi (0))])]) ⟨Le.refl _, Le.refl _, True.intro⟩ ⟨⟨_, rfl, .refl _⟩, True.intro⟩ rfl) ?_
  obtain ⟨v1, hv1, h⟩ := bindS h
  refine Ok.seqw ⟨Cat.tab [(5, (.b 10 0)), (6, (.o 19))], [(10, .box [(.s (List.map cU8 v1.1)), (vi v1.2.1)]), (19, .own 3 1 (List.map Go.Cat.encI v1.2.2))]⟩ ?_ ?_
  · refine Ok.seq ?_
    refine Ok.region Tryz.tok ?_
    obtain ⟨x1, hx1, hv1⟩ := bindS hv1
    refine CallOk.chgLe (id := 10) (w_pack_reader_count hx1) rfl (.box (.cons (Le.refl _) (.cons (Le.refl _) (.nil)))) rfl (.cons (Lr.b) (.nil)) ?_
    rintro _ _ ⟨rfl, rfl⟩
    refine Ok.wk (Wk.tab (L := [(5, (.b 10 0)), (6, (.v (.slice none 0 0))), (12, (vi x1.1)), (13, (vi (0)))]) (H' := [(10, .box [(.s (List.map cU8 x1.2.rest_.b_)), (vi x1.2.e_)])]) ⟨Le.refl _, Le.refl _, Le.refl _, Le.refl _, True.intro⟩ ⟨⟨_, rfl, .refl _⟩, True.intro⟩ rfl) ?_
    refine Ok.block ?_
    refine Ok.loop (fun (s1 : Int × (List UInt8) × Int × (List Int)) => ⟨Cat.tab [(5, (.b 10 0)), (6, (.o 19)), (12, (vi x1.1)), (13, (vi s1.1))], [(10, .box [(.s (List.map cU8 s1.2.1)), (vi s1.2.2.1)]), (19, .own 3 1 (List.map Go.Cat.encI s1.2.2.2))]⟩) (pack_ReadInts_B1 x1) (s0 := (0, x1.2.rest_.b_, x1.2.e_, [])) hv1 ((Wk.own0 (t := 6) (id := 19) (E := 3) (K := 1) rfl rfl).trans (Wk.tab ⟨Le.refl _, Le.refl _, Le.refl _, Le.refl _, True.intro⟩ ⟨⟨_, rfl, .refl _⟩, ⟨_, rfl, .refl _⟩, True.intro⟩ rfl)) ?_
    intro s1 y1 hB1 hy1
    unfold pack_ReadInts_B1 at hB1
    refine Ok.seq ?_
    refine Ok.region Tryz.tok ?_
    refine Ok.wk (Wk.tab (L := [(5, (.b 10 0)), (6, (.o 19)), (12, (vi x1.1)), (13, (vi s1.1)), (14, (vb ((decide (s1.1 < x1.1)))))]) (H' := [(10, .box [(.s (List.map cU8 s1.2.1)), (vi s1.2.2.1)]), (19, .own 3 1 (List.map Go.Cat.encI s1.2.2.2))]) ⟨Le.refl _, Le.refl _, Le.refl _, Le.refl _, Le.refl _, True.intro⟩ ⟨⟨_, rfl, .refl _⟩, ⟨_, rfl, .refl _⟩, True.intro⟩ rfl) ?_
    refine Ok.seq ?_
    refine Ok.cond (d := 14) (b := (decide (s1.1 < x1.1))) rfl hB1 (fun hb hB1 => ?_) fun hb hB1 => ?_
    · refine Ok.skip ?_
      refine Ok.seq ?_
      refine Ok.block ?_
      refine Ok.seq ?_
      refine Ok.region Tryz.tok ?_
      obtain ⟨x2, hx2, hB1⟩ := bindS hB1
      refine CallOk.chgLe (id := 10) (w_pack_reader_num hx2) rfl (.box (.cons (Le.refl _) (.cons (Le.refl _) (.nil)))) rfl (.cons (Lr.b) (.nil)) ?_
      rintro _ _ ⟨rfl, rfl⟩
      obtain ⟨hc1, hB1⟩ := chk_some hB1
      refine Or.inl ⟨rowsLen_map (f := Go.Cat.encI) (n := 1) (fun _ => rfl) ([x2.1]), app_b2 (f := Go.Cat.encI) (l := s1.2.2.2) (l' := ([x2.1])) hc1, _, (List.map_append (f := Go.Cat.encI) (l₁ := s1.2.2.2) (l₂ := ([x2.1]))).symm, ?_⟩
      refine Ok.wk (Wk.tab (L := [(5, (.b 10 0)), (6, (.o 19)), (12, (vi x1.1)), (13, (vi s1.1))]) (H' := [(10, .box [(.s (List.map cU8 x2.2.rest_.b_)), (vi x2.2.e_)]), (19, .own 3 1 (List.map Go.Cat.encI ((s1.2.2.2 ++ [x2.1]))))]) ⟨Le.refl _, Le.refl _, Le.refl _, Le.refl _, True.intro⟩ ⟨⟨_, rfl, .refl _⟩, ⟨_, rfl, .refl _⟩, True.intro⟩ rfl) ?_
      refine Ok.seq ?_
      refine Ok.region Tryz.tok ?_
      refine ⟨_, rfl, ?_⟩
      refine Ok.wk (Wk.tab (L := [(5, (.b 10 0)), (6, (.o 19)), (12, (vi x1.1)), (13, (vi s1.1)), (24, (vb ((x2.2.e_ != 0))))]) (H' := [(10, .box [(.s (List.map cU8 x2.2.rest_.b_)), (vi x2.2.e_)]), (19, .own 3 1 (List.map Go.Cat.encI ((s1.2.2.2 ++ [x2.1]))))]) ⟨Le.refl _, Le.refl _, Le.refl _, Le.refl _, Le.refl _, True.intro⟩ ⟨⟨_, rfl, .refl _⟩, ⟨_, rfl, .refl _⟩, True.intro⟩ rfl) ?_
      refine Ok.cond (d := 24) (b := (x2.2.e_ != 0)) rfl hB1 (fun hb hB1 => ?_) fun hb hB1 => ?_
      · refine Ok.exit ?_
        have hB1 := out_ret hB1 hy1
        cases hB1
        exact Wk.tab ⟨Le.refl _, Le.refl _, True.intro⟩ ⟨⟨_, rfl, .refl _⟩, ⟨_, rfl, .refl _⟩, True.intro⟩ rfl
      · refine Ok.skip ?_
        refine Ok.region Tryz.tok ?_
        obtain ⟨hc2, hB1⟩ := chk_some hB1
        refine (Or.inl ⟨hc2, ?_⟩)
        exact ⟨_, (Option.some.inj hB1).symm, Wk.tab ⟨Le.refl _, Le.refl _, Le.refl _, Le.refl _, True.intro⟩ ⟨⟨_, rfl, .refl _⟩, ⟨_, rfl, .refl _⟩, True.intro⟩ rfl⟩
    · refine Ok.exit ?_
      have hB1 := out_ret hB1 hy1
      cases hB1
      exact Wk.tab ⟨Le.refl _, Le.refl _, True.intro⟩ ⟨⟨_, rfl, .refl _⟩, ⟨_, rfl, .refl _⟩, True.intro⟩ rfl
  refine Ok.seq ?_
  refine Ok.seq ?_
  refine Ok.region Tryz.tok ?_
  refine ⟨_, rfl, ?_⟩
  refine Ok.wk (Wk.tab (L := [(5, (.b 10 0)), (6, (.o 19)), (30, (vb ((v1.2.1 != 0))))]) (H' := [(10, .box [(.s (List.map cU8 v1.1)), (vi v1.2.1)]), (19, .own 3 1 (List.map Go.Cat.encI v1.2.2))]) ⟨Le.refl _, Le.refl _, Le.refl _, True.intro⟩ ⟨⟨_, rfl, .refl _⟩, ⟨_, rfl, .refl _⟩, True.intro⟩ rfl) ?_
  refine Ok.cond (d := 30) (b := (v1.2.1 != 0)) rfl h (fun hb h => ?_) fun hb h => ?_
  · refine Ok.seq ?_
    refine Ok.draw (m := 7) (MD := ⟨[]⟩) (CH := ⟨[]⟩) Tryz.tok Tryz.mixed (by kernel_rfl) ?_
    refine ⟨_, rfl, ⟨_, rfl, ⟨_, rfl, ⟨_, ⟨_, rfl, rfl⟩, ⟨_, rfl, ⟨_, rfl, ⟨_, rfl, ⟨True.intro, ?_⟩⟩⟩⟩⟩⟩⟩⟩
    refine Ok.wk (Wk.tab (L := [(2, (.v (.slice none 0 0))), (3, (.v (.slice none 0 0))), (4, (vi v1.2.1))]) (H' := []) ⟨Le.refl _, Le.refl _, Le.refl _, True.intro⟩ True.intro rfl) ?_
    refine Ok.ret ?_
    cases h
    exact (Fz.t (.cons Fz.nil (.cons Fz.nil (.cons Fz.v .nil))))
  · refine Ok.skip ?_
    refine Ok.seq ?_
    refine Ok.draw (m := 9) (MD := ⟨[]⟩) (CH := ⟨[]⟩) Tryz.tok Tryz.mixed (by kernel_rfl) ?_
    refine ⟨_, rfl, ⟨_, rfl, ⟨_, rfl, ⟨_, rfl, ⟨_, rfl, ⟨_, ⟨_, rfl, rfl⟩, ⟨_, rfl, ⟨_, rfl, ⟨_, rfl, ⟨True.intro, ?_⟩⟩⟩⟩⟩⟩⟩⟩⟩⟩
    refine Ok.wk (Wk.tab (L := [(2, (.o 19)), (3, (.s (List.map cU8 v1.1))), (4, (vi (0)))]) (H' := [(19, .own 3 1 (List.map Go.Cat.encI v1.2.2))]) ⟨Le.refl _, Le.refl _, Le.refl _, True.intro⟩ ⟨⟨_, rfl, .refl _⟩, True.intro⟩ rfl) ?_
    refine Ok.ret ?_
    cases h
    exact (Fz.t (.cons (Fz.o rfl) (.cons Fz.s (.cons Fz.v .nil))))

theorem w_chunk_take_int__pack_ReadInts {self : chunk_reader} {r : ((List Int)) × chunk_reader} (h : chunk_take_int__pack_ReadInts self = some r) : PChg Tryz.prog 64 [(.b 1000 0), (.c (.func 65) [] [])] (.box [(.s (List.map cU8 self.b_)), (vb self.bad_)]) (fun x c => x = (.s (List.map Go.Cat.encI r.1)) ∧ c = .box [(.s (List.map cU8 r.2.b_)), (vb r.2.bad_)]) := by
  refine pchg_of_ok (n := 36) (c := (Tryz.f64.body.getD .skip)) Tryz.tok Tryz.func64 (by kernel_rfl) rfl rfl (Nat.le_of_ble_eq_true rfl) ?_
  unfold chunk_take_int__pack_ReadInts at h
  refine Ok.wk (Wk.tab (L := [(0, (.b 1000 0)), (1, (.c (.func 65) [] []))]) (H' := [(1000, .box [(.s (List.map cU8 self.b_)), (vb self.bad_)])]) ⟨Le.refl _, Le.refl _, True.intro⟩ ⟨⟨_, rfl, .refl _⟩, True.intro⟩ rfl) ?_
  refine Ok.seq ?_
  refine Ok.region Tryz.tok ?_
  refine Ok.wk (Wk.tab (L := [(0, (.b 1000 0)), (1, (.c (.func 65) [] []))]) (H' := [(1000, .box [(.s (List.map cU8 self.b_)), (vb self.bad_)])]) ⟨Le.refl _, Le.refl _, True.intro⟩ ⟨⟨_, rfl, .refl _⟩, True.intro⟩ rfl) ?_
  refine Ok.seq ?_
  refine Ok.region Tryz.tok ?_
  obtain ⟨x1, hx1, h⟩ := bindS h
  refine ⟨_, rfl, ?_⟩
  refine CallOk.call (w_pack_ReadInts hx1) (LeL.refl _) ?_
  refine Ok.wk (Wk.tab (L := [(0, (.b 1000 0)), (5, (.s (List.map Go.Cat.encI x1.1))), (6, (.s (List.map cU8 x1.2.1))), (7, (vi x1.2.2))]) (H' := [(1000, .box [(.s (List.map cU8 self.b_)), (vb self.bad_)])]) ⟨Le.refl _, Le.refl _, Le.refl _, Le.refl _, True.intro⟩ ⟨⟨_, rfl, .refl _⟩, True.intro⟩ rfl) ?_
  refine Ok.seq ?_
  obtain ⟨v1, hv1, h⟩ := bindS h
  refine Ok.seqw ⟨Cat.tab [(0, (.b 1000 0)), (5, (.s (List.map Go.Cat.encI x1.1))), (6, (.s (List.map cU8 x1.2.1))), (26, (vb v1))], [(1000, .box [(.s (List.map cU8 self.b_)), (vb self.bad_)])]⟩ ?_ ?_
  · refine Ok.region Tryz.tok ?_
    refine ⟨_, rfl, ?_⟩
    obtain ⟨c1, hg1, hv1⟩ := bindS hv1
    refine Br.itf hg1 (fun hb hg1 => ?_) fun hb hg1 => ?_
    · cases hg1
      cases hv1
      exact Wk.tab ⟨Le.refl _, Le.refl _, Le.refl _, Le.refl _, True.intro⟩ ⟨⟨_, rfl, .refl _⟩, True.intro⟩ rfl
    · cases hg1
      cases hv1
      exact Wk.tab ⟨Le.refl _, Le.refl _, Le.refl _, Le.refl _, True.intro⟩ ⟨⟨_, rfl, .refl _⟩, True.intro⟩ rfl
  refine Ok.cond (d := 26) (b := v1) rfl h (fun hb h => ?_) fun hb h => ?_
  · refine Ok.seq ?_
    refine Ok.region Tryz.tok ?_
    refine ⟨_, rfl, ?_⟩
    refine Ok.wk (Wk.tab (L := []) (H' := [(1000, .box [(.s (List.map cU8 self.b_)), (vb true)])]) True.intro ⟨⟨_, rfl, .refl _⟩, True.intro⟩ rfl) ?_
    refine Ok.seq ?_
    refine Ok.region Tryz.tok ?_
    refine Ok.wk (Wk.tab (L := [(8, (.v (.slice none 0 0)))]) (H' := [(1000, .box [(.s (List.map cU8 self.b_)), (vb true)])]) ⟨Le.refl _, True.intro⟩ ⟨⟨_, rfl, .refl _⟩, True.intro⟩ rfl) ?_
    refine Ok.seq ?_
    refine Ok.region Tryz.tok ?_
    refine Ok.wk (Wk.tab (L := [(4, (.v (.slice none 0 0)))]) (H' := [(1000, .box [(.s (List.map cU8 self.b_)), (vb true)])]) ⟨Le.refl _, True.intro⟩ ⟨⟨_, rfl, .refl _⟩, True.intro⟩ rfl) ?_
    refine Ok.ret ?_
    cases h
    exact ⟨_, _, ⟨rfl, rfl⟩, rfl, rfl, Fz.nil⟩
  · refine Ok.skip ?_
    refine Ok.seq ?_
    refine Ok.region Tryz.tok ?_
    refine ⟨_, rfl, ?_⟩
    refine Ok.wk (Wk.tab (L := [(5, (.s (List.map Go.Cat.encI x1.1)))]) (H' := [(1000, .box [(.s (List.map cU8 x1.2.1)), (vb self.bad_)])]) ⟨Le.refl _, True.intro⟩ ⟨⟨_, rfl, .refl _⟩, True.intro⟩ rfl) ?_
    refine Ok.seq ?_
    refine Ok.region Tryz.tok ?_
    refine Ok.wk (Wk.tab (L := [(4, (.s (List.map Go.Cat.encI x1.1)))]) (H' := [(1000, .box [(.s (List.map cU8 x1.2.1)), (vb self.bad_)])]) ⟨Le.refl _, True.intro⟩ ⟨⟨_, rfl, .refl _⟩, True.intro⟩ rfl) ?_
    refine Ok.ret ?_
    cases h
    exact ⟨_, _, ⟨rfl, rfl⟩, rfl, rfl, Fz.s⟩

theorem w_chunk_reader_copy {self : chunk_reader} {r : (api_Copy × Bool) × chunk_reader} (h : chunk_reader_copy self = some r) : PChg Tryz.prog 37 [(.b 1000 0)] (.box [(.s (List.map cU8 self.b_)), (vb self.bad_)]) (fun x c => x = (.t [(.a [(vi r.1.1.Id), (vi r.1.1.Ver), (.s (List.map cU8 r.1.1.Data)), (.s (List.map Go.Cat.encI r.1.1.Sums))]), (vb r.1.2)]) ∧ c = .box [(.s (List.map cU8 r.2.b_)), (vb r.2.bad_)]) := by
  refine pchg_of_ok (n := 34) (c := (Tryz.f37.body.getD .skip)) Tryz.tok Tryz.func37 (by kernel_rfl) rfl rfl (Nat.le_of_ble_eq_true rfl) ?_
  unfold chunk_reader_copy at h
  refine Ok.wk (Wk.tab (L := [(0, (.b 1000 0))]) (H' := [(1000, .box [(.s (List.map cU8 self.b_)), (vb self.bad_)])]) ⟨Le.refl _, True.intro⟩ ⟨⟨_, rfl, .refl _⟩, True.intro⟩ rfl) ?_
  refine Ok.seq ?_
  refine Ok.region Tryz.tok ?_
  refine Ok.wk (Wk.tab (L := [(0, (.b 1000 0)), (2, (.b 2 0))]) (H' := [(1000, .box [(.s (List.map cU8 self.b_)), (vb self.bad_)]), (2, .box [(vi (0)), (vi (0)), (.v (.slice none 0 0)), (.v (.slice none 0 0))])]) ⟨Le.refl _, Le.refl _, True.intro⟩ ⟨⟨_, rfl, .refl _⟩, ⟨_, rfl, .refl _⟩, True.intro⟩ rfl) ?_
  refine Ok.seq ?_
  refine Ok.region Tryz.tok ?_
  refine Ok.wk (Wk.tab (L := [(0, (.b 1000 0)), (2, (.b 2 0)), (4, (.c (.func 61) [(.b 1000 0)] []))]) (H' := [(1000, .box [(.s (List.map cU8 self.b_)), (vb self.bad_)]), (2, .box [(vi (0)), (vi (0)), (.v (.slice none 0 0)), (.v (.slice none 0 0))])]) ⟨Le.refl _, Le.refl _, Le.refl _, True.intro⟩ ⟨⟨_, rfl, .refl _⟩, ⟨_, rfl, .refl _⟩, True.intro⟩ rfl) ?_
  refine Ok.seq ?_
  refine Ok.region Tryz.tok ?_
  obtain ⟨x1, hx1, h⟩ := bindS h
  refine CallOk.chgLe (id := 1000) (w_chunk_reader_int hx1) rfl (.box (.cons (Le.refl _) (.cons (Le.refl _) (.nil)))) rfl (.cons (Lr.b) (.nil)) ?_
  rintro _ _ ⟨rfl, rfl⟩
  obtain ⟨x2, hx2, h⟩ := bindS h
  refine CallOk.chgLe (id := 1000) (w_chunk_reader_int hx2) rfl (.box (.cons (Le.refl _) (.cons (Le.refl _) (.nil)))) rfl (.cons (Lr.b) (.nil)) ?_
  rintro _ _ ⟨rfl, rfl⟩
  refine ⟨_, rfl, ?_⟩
  refine Ok.wk (Wk.tab (L := [(0, (.b 1000 0)), (2, (.b 2 0)), (5, (.b 5 0))]) (H' := [(1000, .box [(.s (List.map cU8 x2.2.b_)), (vb x2.2.bad_)]), (2, .box [(vi (0)), (vi (0)), (.v (.slice none 0 0)), (.v (.slice none 0 0))]), (5, .box [(vi x1.1), (vi x2.1), (.v (.slice none 0 0)), (.v (.slice none 0 0))])]) ⟨Le.refl _, Le.refl _, Le.refl _, True.intro⟩ ⟨⟨_, rfl, .refl _⟩, ⟨_, rfl, .refl _⟩, ⟨_, rfl, .refl _⟩, True.intro⟩ rfl) ?_
  refine Ok.seq ?_
  refine Ok.region Tryz.tok ?_
  obtain ⟨x3, hx3, h⟩ := bindS h
  refine CallOk.chgLe (id := 1000) (w_chunk_take_string__pack_ReadStr hx3) rfl (.box (.cons (Le.refl _) (.cons (Le.refl _) (.nil)))) rfl (.cons (Lr.b) (.cons (Lr.imm rfl) (.nil))) ?_
  rintro _ _ ⟨rfl, rfl⟩
  obtain ⟨hc1, h⟩ := chk_some h
  refine ⟨str_max hc1, ⟨_, rfl, ?_⟩⟩
  refine Ok.wk (Wk.tab (L := [(0, (.b 1000 0)), (2, (.b 2 0)), (5, (.b 5 0))]) (H' := [(1000, .box [(.s (List.map cU8 x3.2.b_)), (vb x3.2.bad_)]), (2, .box [(vi (0)), (vi (0)), (.v (.slice none 0 0)), (.v (.slice none 0 0))]), (5, .box [(vi x1.1), (vi x2.1), (.s (List.map cU8 x3.1)), (.v (.slice none 0 0))])]) ⟨Le.refl _, Le.refl _, Le.refl _, True.intro⟩ ⟨⟨_, rfl, .refl _⟩, ⟨_, rfl, .refl _⟩, ⟨_, rfl, .refl _⟩, True.intro⟩ rfl) ?_
  refine Ok.seq ?_
  refine Ok.region Tryz.tok ?_
  obtain ⟨x4, hx4, h⟩ := bindS h
  refine CallOk.chgLe (id := 1000) (w_chunk_take_int__pack_ReadInts hx4) rfl (.box (.cons (Le.refl _) (.cons (Le.refl _) (.nil)))) rfl (.cons (Lr.b) (.cons (Lr.imm rfl) (.nil))) ?_
  rintro _ _ ⟨rfl, rfl⟩
  refine ⟨_, rfl, ?_⟩
  refine Ok.wk (Wk.tab (L := [(0, (.b 1000 0)), (2, (.b 2 0)), (5, (.b 5 0))]) (H' := [(1000, .box [(.s (List.map cU8 x4.2.b_)), (vb x4.2.bad_)]), (2, .box [(vi (0)), (vi (0)), (.v (.slice none 0 0)), (.v (.slice none 0 0))]), (5, .box [(vi x1.1), (vi x2.1), (.s (List.map cU8 x3.1)), (.s (List.map Go.Cat.encI x4.1))])]) ⟨Le.refl _, Le.refl _, Le.refl _, True.intro⟩ ⟨⟨_, rfl, .refl _⟩, ⟨_, rfl, .refl _⟩, ⟨_, rfl, .refl _⟩, True.intro⟩ rfl) ?_
  obtain ⟨v1, hv1, h⟩ := bindS h
  refine Ok.seqw ⟨Cat.tab [(2, (.b 2 0)), (3, (vb v1))], [(2, .box [(vi x1.1), (vi x2.1), (.s (List.map cU8 x3.1)), (.s (List.map Go.Cat.encI x4.1))]), (1000, .box [(.s (List.map cU8 x4.2.b_)), (vb x4.2.bad_)])]⟩ ?_ ?_
  · refine Ok.draw2 (m := 14) (late := [7, 8, 9, 10, 11, 12, 13]) (MD := ⟨[]⟩) (CH := ⟨[]⟩) Tryz.tok Tryz.mixed (by kernel_rfl) ?_
    refine ⟨_, ⟨_, rfl, rfl⟩, ⟨_, rfl, ⟨_, rfl, ⟨_, rfl, ⟨_, ⟨_, rfl, rfl⟩, ⟨_, rfl, ⟨_, rfl, ?_⟩⟩⟩⟩⟩⟩⟩
    obtain ⟨c1, hg1, hv1⟩ := bindS hv1
    refine Br.ite hg1 (fun hb hg1 => ?_) fun hb hg1 => ?_
    · refine ⟨_, rfl, ⟨_, rfl, ⟨_, rfl, ⟨_, ⟨_, rfl, rfl⟩, ⟨_, ⟨_, List.length_map _, fun _ => rfl⟩, ⟨_, rfl, ?_⟩⟩⟩⟩⟩⟩
      cases hg1
      refine ⟨_, rfl, ?_⟩
      refine ⟨True.intro, ?_⟩
      refine ⟨_, rfl, ⟨⟨⟨_, rfl, _, rfl, .inl ⟨rfl, rfl⟩⟩, ⟨_, rfl, _, rfl, .inl ⟨rfl, rfl⟩⟩, ⟨_, rfl, _, rfl, .inl ⟨rfl, rfl⟩⟩, ⟨_, rfl, _, rfl, .inl ⟨rfl, ⟨_, rfl, rfl⟩⟩⟩, ⟨_, rfl, _, rfl, .inl ⟨rfl, ⟨_, List.length_map _, fun _ => rfl⟩⟩⟩, ⟨_, rfl, _, rfl, .inl ⟨rfl, rfl⟩⟩, ⟨_, rfl, rfl⟩, True.intro⟩, ?_⟩⟩
      cases hv1
      exact Wk.tab ⟨Le.refl _, Le.refl _, True.intro⟩ ⟨⟨_, rfl, .refl _⟩, ⟨_, rfl, .refl _⟩, True.intro⟩ rfl
    · cases hg1
      refine ⟨_, rfl, ?_⟩
      refine ⟨True.intro, ?_⟩
      refine ⟨_, rfl, ⟨⟨⟨_, rfl, _, rfl, .inr (.inl ⟨rfl, rfl⟩)⟩, ⟨_, rfl, _, rfl, .inr (.inl ⟨rfl, rfl⟩)⟩, ⟨_, rfl, _, rfl, .inr (.inl ⟨rfl, rfl⟩)⟩, ⟨_, rfl, _, rfl, .inr (.inl ⟨rfl, rfl⟩)⟩, ⟨_, rfl, _, rfl, .inr (.inl ⟨rfl, rfl⟩)⟩, ⟨_, rfl, _, rfl, .inr (.inl ⟨rfl, rfl⟩)⟩, ⟨_, rfl, rfl⟩, True.intro⟩, ?_⟩⟩
      cases hv1
      exact Wk.tab ⟨Le.refl _, Le.refl _, True.intro⟩ ⟨⟨_, rfl, .refl _⟩, ⟨_, rfl, .refl _⟩, True.intro⟩ rfl
  refine Ok.ret ?_
  cases h
  exact ⟨_, rfl, ⟨_, _, ⟨rfl, rfl⟩, rfl, rfl, (Fz.t (.cons (Fz.imm rfl) (.cons Fz.v .nil)))⟩⟩

theorem w_bytes_Equal {p_a : List UInt8} {p_b : List UInt8} {r : Bool} (h : bytes_Equal p_a p_b = some r) : Pure Tryz.prog 39 [(.s (List.map cU8 p_a)), (.s (List.map cU8 p_b))] (vb r) := by
  refine pure_of_ok (n := 10) (c := (Tryz.f39.body.getD .skip)) Tryz.tok Tryz.func39 (by kernel_rfl) rfl rfl (Nat.le_of_ble_eq_true rfl) ?_
  unfold bytes_Equal at h
  refine Ok.wk (Wk.tab (L := [(0, (.s (List.map cU8 p_a))), (1, (.s (List.map cU8 p_b)))]) (H' := []) ⟨Le.refl _, Le.refl _, True.intro⟩ True.intro rfl) ?_
  refine Ok.seq ?_
  refine Ok.region Tryz.tok ?_
  refine Ok.wk (Wk.tab (L := [(0, (.s (List.map cU8 p_a))), (1, (.s (List.map cU8 p_b)))]) (H' := []) ⟨Le.refl _, Le.refl _, True.intro⟩ True.intro rfl) ?_
  refine Ok.seq ?_
  refine Ok.region Tryz.tok ?_
  refine ⟨_, rfl, ⟨_, rfl, ⟨_, str_eql _ _, ?_⟩⟩⟩
  refine Ok.wk (Wk.tab (L := [(4, (vb ((p_a == p_b))))]) (H' := []) ⟨Le.refl _, True.intro⟩ True.intro rfl) ?_
  refine Ok.ret ?_
  cases h
  exact Fz.v

theorem w_chunk_Get {p_d : api_Disk} {p_id : Int} {r : api_Copy × Int} (h : chunk_Get p_d p_id = some r) : Pure Tryz.prog 17 [(.a [(.s (List.map c_api_Page p_d.Synced)), (.s (List.map c_api_Page p_d.Loose)), (vb p_d.Down)]), (vi p_id)] (.t [(.a [(vi r.1.Id), (vi r.1.Ver), (.s (List.map cU8 r.1.Data)), (.s (List.map Go.Cat.encI r.1.Sums))]), (vi r.2)]) := by
  refine pure_of_ok (n := 61) (c := (Tryz.f17.body.getD .skip)) Tryz.tok Tryz.func17 (by kernel_rfl) rfl rfl (Nat.le_of_ble_eq_true rfl) ?_
  unfold chunk_Get at h
  refine Ok.wk (Wk.tab (L := [(0, (.a [(.s (List.map c_api_Page p_d.Synced)), (.s (List.map c_api_Page p_d.Loose)), (vb p_d.Down)])), (1, (vi p_id))]) (H' := []) ⟨Le.refl _, Le.refl _, True.intro⟩ True.intro rfl) ?_
  refine Ok.seq ?_
  refine Ok.region Tryz.tok ?_
  refine Ok.wk (Wk.tab (L := [(1, (vi p_id)), (2, (.b 2 0)), (4, (.b 4 0))]) (H' := [(2, .box [(.s (List.map c_api_Page p_d.Synced)), (.s (List.map c_api_Page p_d.Loose)), (vb p_d.Down)]), (4, .box [(vi (0)), (vi (0)), (.v (.slice none 0 0)), (.v (.slice none 0 0))])]) ⟨Le.refl _, Le.refl _, Le.refl _, True.intro⟩ ⟨⟨_, rfl, .refl _⟩, ⟨_, rfl, .refl _⟩, True.intro⟩ rfl) ?_
  refine Ok.seq ?_
  refine Ok.region Tryz.tok ?_
  obtain ⟨x1, hx1, h⟩ := bindS h
  refine ⟨_, rfl, ?_⟩
  refine CallOk.call (w_chunk_there hx1) (LeL.refl _) ?_
  refine Ok.wk (Wk.tab (L := [(1, (vi p_id)), (4, (.b 4 0)), (6, (.s (List.map cU8 x1.1))), (7, (vi x1.2))]) (H' := [(4, .box [(vi (0)), (vi (0)), (.v (.slice none 0 0)), (.v (.slice none 0 0))])]) ⟨Le.refl _, Le.refl _, Le.refl _, Le.refl _, True.intro⟩ ⟨⟨_, rfl, .refl _⟩, True.intro⟩ rfl) ?_
  refine Ok.seq ?_
  refine Ok.block ?_
  refine Ok.seq ?_
  refine Ok.region Tryz.tok ?_
  refine Ok.wk (Wk.tab (L := [(1, (vi p_id)), (4, (.b 4 0)), (6, (.s (List.map cU8 x1.1))), (7, (vi x1.2)), (17, (vb ((x1.2 != 0))))]) (H' := [(4, .box [(vi (0)), (vi (0)), (.v (.slice none 0 0)), (.v (.slice none 0 0))])]) ⟨Le.refl _, Le.refl _, Le.refl _, Le.refl _, Le.refl _, True.intro⟩ ⟨⟨_, rfl, .refl _⟩, True.intro⟩ rfl) ?_
  refine Ok.cond (d := 17) (b := (x1.2 != 0)) rfl h (fun hb h => ?_) fun hb h => ?_
  · refine Ok.seq ?_
    refine Ok.region Tryz.tok ?_
    refine ⟨_, rfl, ?_⟩
    refine Ok.wk (Wk.tab (L := [(4, (.b 4 0)), (5, (vi x1.2))]) (H' := [(4, .box [(vi (0)), (vi (0)), (.v (.slice none 0 0)), (.v (.slice none 0 0))])]) ⟨Le.refl _, Le.refl _, True.intro⟩ ⟨⟨_, rfl, .refl _⟩, True.intro⟩ rfl) ?_
    refine Ok.ret ?_
    cases h
    exact ⟨_, rfl, (Fz.t (.cons (Fz.a (.cons Fz.v (.cons Fz.v (.cons Fz.nil (.cons Fz.nil .nil))))) (.cons Fz.v .nil)))⟩
  · refine Ok.seq ?_
    refine Ok.region Tryz.tok ?_
    refine ⟨_, List.length_map _, fun _ => ?_⟩
    refine Ok.wk (Wk.tab (L := [(1, (vi p_id)), (4, (.b 4 0)), (6, (.s (List.map cU8 x1.1))), (22, (vb ((decide ((x1.1.length : Int) < 4)))))]) (H' := [(4, .box [(vi (0)), (vi (0)), (.v (.slice none 0 0)), (.v (.slice none 0 0))])]) ⟨Le.refl _, Le.refl _, Le.refl _, Le.refl _, True.intro⟩ ⟨⟨_, rfl, .refl _⟩, True.intro⟩ rfl) ?_
    refine Ok.cond (d := 22) (b := (decide ((x1.1.length : Int) < 4))) rfl h (fun hb h => ?_) fun hb h => ?_
    · refine Ok.seq ?_
      refine Ok.region Tryz.tok ?_
      refine ⟨_, rfl, ?_⟩
      refine Ok.wk (Wk.tab (L := [(4, (.b 4 0)), (5, (vi (251)))]) (H' := [(4, .box [(vi (0)), (vi (0)), (.v (.slice none 0 0)), (.v (.slice none 0 0))])]) ⟨Le.refl _, Le.refl _, True.intro⟩ ⟨⟨_, rfl, .refl _⟩, True.intro⟩ rfl) ?_
      refine Ok.ret ?_
      cases h
      exact ⟨_, rfl, (Fz.t (.cons (Fz.a (.cons Fz.v (.cons Fz.v (.cons Fz.nil (.cons Fz.nil .nil))))) (.cons Fz.v .nil)))⟩
    · refine Ok.skip ?_
      refine Ok.seq ?_
      refine Ok.region Tryz.tok ?_
      obtain ⟨hc1, h⟩ := chk_some h
      obtain ⟨hc2, h⟩ := chk_some h
      refine ⟨_, List.length_map _, fun _ => (Or.inl ⟨hc1, ⟨_, sl_nat hc2.1, Nat.zero_le _, sl_len hc2, rowsK (f := cU8) (K := 1) (fun _ => rfl) x1.1, _, sl_take _ _ _, ?_⟩⟩)⟩
      refine Ok.wk (Wk.tab (L := [(1, (vi p_id)), (4, (.b 4 0)), (6, (.s (List.map cU8 x1.1))), (8, (.b 33 0))]) (H' := [(4, .box [(vi (0)), (vi (0)), (.v (.slice none 0 0)), (.v (.slice none 0 0))]), (33, .box [(.s (List.map cU8 ((x1.1.take (((x1.1.length : Int) - 4)).toNat)))), (vb false)])]) ⟨Le.refl _, Le.refl _, Le.refl _, Le.refl _, True.intro⟩ ⟨⟨_, rfl, .refl _⟩, ⟨_, rfl, .refl _⟩, True.intro⟩ rfl) ?_
      refine Ok.seq ?_
      refine Ok.region Tryz.tok ?_
      obtain ⟨x2, hx2, h⟩ := bindS h
      refine CallOk.chgLe (id := 33) (w_chunk_reader_copy hx2) rfl (.box (.cons (Le.refl _) (.cons (Le.refl _) (.nil)))) rfl (.cons (Lr.b) (.nil)) ?_
      rintro _ _ ⟨rfl, rfl⟩
      refine ⟨_, rfl, ?_⟩
      refine Ok.wk (Wk.tab (L := [(1, (vi p_id)), (4, (.b 4 0)), (6, (.s (List.map cU8 x1.1))), (9, (.b 9 0)), (10, (vb x2.1.2))]) (H' := [(4, .box [(vi (0)), (vi (0)), (.v (.slice none 0 0)), (.v (.slice none 0 0))]), (9, .box [(vi x2.1.1.Id), (vi x2.1.1.Ver), (.s (List.map cU8 x2.1.1.Data)), (.s (List.map Go.Cat.encI x2.1.1.Sums))])]) ⟨Le.refl _, Le.refl _, Le.refl _, Le.refl _, Le.refl _, True.intro⟩ ⟨⟨_, rfl, .refl _⟩, ⟨_, rfl, .refl _⟩, True.intro⟩ rfl) ?_
      refine Ok.seq ?_
      obtain ⟨v1, hv1, h⟩ := bindS h
      refine Ok.seqw ⟨Cat.tab [(4, (.b 4 0)), (9, (.b 9 0)), (58, (vb v1))], [(4, .box [(vi (0)), (vi (0)), (.v (.slice none 0 0)), (.v (.slice none 0 0))]), (9, .box [(vi x2.1.1.Id), (vi x2.1.1.Ver), (.s (List.map cU8 x2.1.1.Data)), (.s (List.map Go.Cat.encI x2.1.1.Sums))])]⟩ ?_ ?_
      · refine Ok.region Tryz.tok ?_
        obtain ⟨c1, hg1, hv1⟩ := bindS hv1
        refine Br.itf hg1 (fun hb hg1 => ?_) fun hb hg1 => ?_
        · cases hg1
          obtain ⟨c2, hg2, hv1⟩ := bindS hv1
          replace hg2 := iteT hg2
          cases hg2
          obtain ⟨c3, hg3, hv1⟩ := bindS hv1
          replace hg3 := iteT hg3
          cases hg3
          cases hv1
          exact Wk.tab ⟨Le.refl _, Le.refl _, Le.refl _, True.intro⟩ ⟨⟨_, rfl, .refl _⟩, ⟨_, rfl, .refl _⟩, True.intro⟩ rfl
        · obtain ⟨x3, hx3, hg1⟩ := bindS hg1
          refine ⟨_, rfl, ?_⟩
          refine CallOk.call (w_chunk_may hx3) (LeL.refl _) ?_
          cases hg1
          obtain ⟨c2, hg4, hv1⟩ := bindS hv1
          refine Br.itf hg4 (fun hb hg4 => ?_) fun hb hg4 => ?_
          · cases hg4
            obtain ⟨c3, hg5, hv1⟩ := bindS hv1
            replace hg5 := iteT hg5
            cases hg5
            cases hv1
            exact Wk.tab ⟨Le.refl _, Le.refl _, Le.refl _, True.intro⟩ ⟨⟨_, rfl, .refl _⟩, ⟨_, rfl, .refl _⟩, True.intro⟩ rfl
          · refine ⟨_, rfl, ?_⟩
            cases hg4
            obtain ⟨c3, hg6, hv1⟩ := bindS hv1
            refine Br.itf hg6 (fun hb hg6 => ?_) fun hb hg6 => ?_
            · cases hg6
              cases hv1
              exact Wk.tab ⟨Le.refl _, Le.refl _, Le.refl _, True.intro⟩ ⟨⟨_, rfl, .refl _⟩, ⟨_, rfl, .refl _⟩, True.intro⟩ rfl
            · obtain ⟨x4, hx4, hg6⟩ := bindS hg6
              refine ⟨_, rfl, ?_⟩
              refine CallOk.call (w_chunk_page hx4) (LeL.refl _) ?_
              obtain ⟨x5, hx5, hg6⟩ := bindS hg6
              refine CallOk.call (w_bytes_Equal hx5) (LeL.refl _) ?_
              cases hg6
              cases hv1
              exact Wk.tab ⟨Le.refl _, Le.refl _, Le.refl _, True.intro⟩ ⟨⟨_, rfl, .refl _⟩, ⟨_, rfl, .refl _⟩, True.intro⟩ rfl
      refine Ok.cond (d := 58) (b := v1) rfl h (fun hb h => ?_) fun hb h => ?_
      · refine Ok.seq ?_
        refine Ok.region Tryz.tok ?_
        refine ⟨_, rfl, ?_⟩
        refine Ok.wk (Wk.tab (L := [(4, (.b 4 0)), (5, (vi (251)))]) (H' := [(4, .box [(vi (0)), (vi (0)), (.v (.slice none 0 0)), (.v (.slice none 0 0))])]) ⟨Le.refl _, Le.refl _, True.intro⟩ ⟨⟨_, rfl, .refl _⟩, True.intro⟩ rfl) ?_
        refine Ok.ret ?_
        cases h
        exact ⟨_, rfl, (Fz.t (.cons (Fz.a (.cons Fz.v (.cons Fz.v (.cons Fz.nil (.cons Fz.nil .nil))))) (.cons Fz.v .nil)))⟩
      · refine Ok.skip ?_
        refine Ok.seq ?_
        refine Ok.region Tryz.tok ?_
        refine ⟨_, rfl, ⟨_, rfl, ?_⟩⟩
        refine Ok.wk (Wk.tab (L := [(4, (.b 4 0)), (5, (vi (0)))]) (H' := [(4, .box [(vi x2.1.1.Id), (vi x2.1.1.Ver), (.s (List.map cU8 x2.1.1.Data)), (.s (List.map Go.Cat.encI x2.1.1.Sums))])]) ⟨Le.refl _, Le.refl _, True.intro⟩ ⟨⟨_, rfl, .refl _⟩, True.intro⟩ rfl) ?_
        refine Ok.ret ?_
        cases h
        exact ⟨_, rfl, (Fz.t (.cons (Fz.imm rfl) (.cons Fz.v .nil)))⟩

theorem w_ref02_Bytes {p_a : List UInt8} {p_b : List UInt8} {r : Bool} (h : ref02_Bytes p_a p_b = some r) : Pure Tryz.prog 41 [(.s (List.map cU8 p_a)), (.s (List.map cU8 p_b))] (vb r) := by
  refine pure_of_ok (n := 26) (c := (Tryz.f41.body.getD .skip)) Tryz.tok Tryz.func41 (by kernel_rfl) rfl rfl (Nat.le_of_ble_eq_true rfl) ?_
  unfold ref02_Bytes at h
  refine Ok.wk (Wk.tab (L := [(0, (.s (List.map cU8 p_a))), (1, (.s (List.map cU8 p_b)))]) (H' := []) ⟨Le.refl _, Le.refl _, True.intro⟩ True.intro rfl) ?_
  refine Ok.seq ?_
  refine Ok.region Tryz.tok ?_
  refine Ok.wk (Wk.tab (L := [(0, (.s (List.map cU8 p_a))), (1, (.s (List.map cU8 p_b)))]) (H' := []) ⟨Le.refl _, Le.refl _, True.intro⟩ True.intro rfl) ?_
  refine Ok.seq ?_
  refine Ok.seq ?_
  refine Ok.region Tryz.tok ?_
  refine ⟨_, List.length_map _, fun _ => ⟨_, List.length_map _, fun _ => ?_⟩⟩
  refine Ok.wk (Wk.tab (L := [(0, (.s (List.map cU8 p_a))), (1, (.s (List.map cU8 p_b))), (10, (vb (((p_a.length : Int) != (p_b.length : Int)))))]) (H' := []) ⟨Le.refl _, Le.refl _, Le.refl _, True.intro⟩ True.intro rfl) ?_
  refine Ok.cond (d := 10) (b := ((p_a.length : Int) != (p_b.length : Int))) rfl h (fun hb h => ?_) fun hb h => ?_
  · refine Ok.seq ?_
    refine Ok.region Tryz.tok ?_
    refine Ok.wk (Wk.tab (L := [(4, (vb false))]) (H' := []) ⟨Le.refl _, True.intro⟩ True.intro rfl) ?_
    refine Ok.ret ?_
    cases h
    exact Fz.v
  · refine Ok.skip ?_
    refine Ok.seqj (fun v1 => ⟨Cat.tab [], []⟩) (fun v1 => ref02_Bytes_J1 v1 = some r) ?_ ?_
    · refine Ok.seq ?_
      refine Ok.region Tryz.tok ?_
      refine Ok.wk (Wk.tab (L := [(0, (.s (List.map cU8 p_a))), (1, (.s (List.map cU8 p_b))), (5, (vi (0)))]) (H' := []) ⟨Le.refl _, Le.refl _, Le.refl _, True.intro⟩ True.intro rfl) ?_
      refine Ok.block ?_
      refine Ok.loop (fun (s1 : Int) => ⟨Cat.tab [(0, (.s (List.map cU8 p_a))), (1, (.s (List.map cU8 p_b))), (5, (vi s1))], []⟩) (ref02_Bytes_B1 p_a p_b) (s0 := 0) h (Wk.tab ⟨Le.refl _, Le.refl _, Le.refl _, True.intro⟩ True.intro rfl) ?_
      intro s1 y1 hB1 hy1
      unfold ref02_Bytes_B1 at hB1
      refine Ok.seq ?_
      refine Ok.seq ?_
      refine Ok.region Tryz.tok ?_
      refine ⟨_, List.length_map _, fun _ => ?_⟩
      refine Ok.wk (Wk.tab (L := [(0, (.s (List.map cU8 p_a))), (1, (.s (List.map cU8 p_b))), (5, (vi s1)), (14, (vb ((decide (s1 < (p_a.length : Int))))))]) (H' := []) ⟨Le.refl _, Le.refl _, Le.refl _, Le.refl _, True.intro⟩ True.intro rfl) ?_
      refine Ok.cond (d := 14) (b := (decide (s1 < (p_a.length : Int)))) rfl hB1 (fun hb hB1 => ?_) fun hb hB1 => ?_
      · refine Ok.skip ?_
        refine Ok.seq ?_
        refine Ok.block ?_
        refine Ok.seq ?_
        refine Ok.draw (m := 9) (MD := ⟨[]⟩) (CH := ⟨[]⟩) Tryz.tok Tryz.mixed (by kernel_rfl) ?_
        obtain ⟨x1, hx1, hB1⟩ := bindS hB1
        obtain ⟨x2, hx2, hB1⟩ := bindS hB1
        refine ⟨_, rfl, ⟨_, rfl, ⟨_, ⟨_, idx_nat hx1, _, idx_row hx1, rfl⟩, ⟨_, ⟨_, rfl, rfl⟩, ⟨_, rfl, ⟨_, rfl, ⟨_, ⟨_, idx_nat hx2, _, idx_row hx2, rfl⟩, ⟨_, ⟨_, rfl, rfl⟩, ⟨_, rfl, ⟨True.intro, ?_⟩⟩⟩⟩⟩⟩⟩⟩⟩⟩
        refine Ok.wk (Wk.tab (L := [(0, (.s (List.map cU8 p_a))), (1, (.s (List.map cU8 p_b))), (5, (vi s1)), (25, (vb (((x1.toNat : Int) != (x2.toNat : Int)))))]) (H' := []) ⟨Le.refl _, Le.refl _, Le.refl _, Le.refl _, True.intro⟩ True.intro rfl) ?_
        refine Ok.cond (d := 25) (b := ((x1.toNat : Int) != (x2.toNat : Int))) rfl hB1 (fun hb hB1 => ?_) fun hb hB1 => ?_
        · refine Ok.seq ?_
          refine Ok.region Tryz.tok ?_
          refine Ok.wk (Wk.tab (L := [(4, (vb false))]) (H' := []) ⟨Le.refl _, True.intro⟩ True.intro rfl) ?_
          refine Ok.ret ?_
          have hB1 := out_ret hB1 hy1
          cases hB1
          exact Fz.v
        · refine Ok.skip ?_
          refine Ok.region Tryz.tok ?_
          obtain ⟨hc1, hB1⟩ := chk_some hB1
          refine (Or.inl ⟨hc1, ?_⟩)
          exact ⟨_, (Option.some.inj hB1).symm, Wk.tab ⟨Le.refl _, Le.refl _, Le.refl _, True.intro⟩ True.intro rfl⟩
      · refine Ok.exit ?_
        have hB1 := out_ret hB1 hy1
        exact ⟨_, hB1, Wk.tab True.intro True.intro rfl⟩
    intro v1 h
    unfold ref02_Bytes_J1 at h
    refine Ok.seq ?_
    refine Ok.region Tryz.tok ?_
    refine Ok.wk (Wk.tab (L := [(4, (vb true))]) (H' := []) ⟨Le.refl _, True.intro⟩ True.intro rfl) ?_
    refine Ok.ret ?_
    cases h
    exact Fz.v

theorem w_ref25_Same {p_a : api_Copy} {p_b : api_Copy} {r : Bool} (h : ref25_Same p_a p_b = some r) : Pure Tryz.prog 18 [(.a [(vi p_a.Id), (vi p_a.Ver), (.s (List.map cU8 p_a.Data)), (.s (List.map Go.Cat.encI p_a.Sums))]), (.a [(vi p_b.Id), (vi p_b.Ver), (.s (List.map cU8 p_b.Data)), (.s (List.map Go.Cat.encI p_b.Sums))])] (vb r) := by
  refine pure_of_ok (n := 31) (c := (Tryz.f18.body.getD .skip)) Tryz.tok Tryz.func18 (by kernel_rfl) rfl rfl (Nat.le_of_ble_eq_true rfl) ?_
  unfold ref25_Same at h
  refine Ok.wk (Wk.tab (L := [(0, (.a [(vi p_a.Id), (vi p_a.Ver), (.s (List.map cU8 p_a.Data)), (.s (List.map Go.Cat.encI p_a.Sums))])), (1, (.a [(vi p_b.Id), (vi p_b.Ver), (.s (List.map cU8 p_b.Data)), (.s (List.map Go.Cat.encI p_b.Sums))]))]) (H' := []) ⟨Le.refl _, Le.refl _, True.intro⟩ True.intro rfl) ?_
  refine Ok.seq ?_
  refine Ok.region Tryz.tok ?_
  refine Ok.wk (Wk.tab (L := [(2, (.b 2 0)), (3, (.b 3 0))]) (H' := [(2, .box [(vi p_a.Id), (vi p_a.Ver), (.s (List.map cU8 p_a.Data)), (.s (List.map Go.Cat.encI p_a.Sums))]), (3, .box [(vi p_b.Id), (vi p_b.Ver), (.s (List.map cU8 p_b.Data)), (.s (List.map Go.Cat.encI p_b.Sums))])]) ⟨Le.refl _, Le.refl _, True.intro⟩ ⟨⟨_, rfl, .refl _⟩, ⟨_, rfl, .refl _⟩, True.intro⟩ rfl) ?_
  obtain ⟨v1, hv1, h⟩ := bindS h
  refine Ok.seqw ⟨Cat.tab [(4, (vb v1))], []⟩ ?_ ?_
  · refine Ok.region Tryz.tok ?_
    refine ⟨_, rfl, ⟨_, rfl, ?_⟩⟩
    obtain ⟨c1, hg1, hv1⟩ := bindS hv1
    refine Br.ite hg1 (fun hb hg1 => ?_) fun hb hg1 => ?_
    · refine ⟨_, rfl, ⟨_, rfl, ?_⟩⟩
      cases hg1
      obtain ⟨c2, hg2, hv1⟩ := bindS hv1
      refine Br.ite hg2 (fun hb hg2 => ?_) fun hb hg2 => ?_
      · obtain ⟨x1, hx1, hg2⟩ := bindS hg2
        refine ⟨_, rfl, ⟨_, rfl, ?_⟩⟩
        refine CallOk.call (w_ref02_Bytes hx1) (LeL.refl _) ?_
        cases hg2
        obtain ⟨c3, hg3, hv1⟩ := bindS hv1
        refine Br.ite hg3 (fun hb hg3 => ?_) fun hb hg3 => ?_
        · obtain ⟨x2, hx2, hg3⟩ := bindS hg3
          refine ⟨_, rfl, ⟨_, rfl, ?_⟩⟩
          refine CallOk.call (w_ref02_Ints hx2) (LeL.refl _) ?_
          cases hg3
          cases hv1
          exact Wk.tab ⟨Le.refl _, True.intro⟩ True.intro rfl
        · cases hg3
          cases hv1
          exact Wk.tab ⟨Le.refl _, True.intro⟩ True.intro rfl
      · cases hg2
        obtain ⟨c3, hg4, hv1⟩ := bindS hv1
        replace hg4 := iteF hg4
        cases hg4
        cases hv1
        exact Wk.tab ⟨Le.refl _, True.intro⟩ True.intro rfl
    · cases hg1
      obtain ⟨c2, hg5, hv1⟩ := bindS hv1
      replace hg5 := iteF hg5
      cases hg5
      obtain ⟨c3, hg6, hv1⟩ := bindS hv1
      replace hg6 := iteF hg6
      cases hg6
      cases hv1
      exact Wk.tab ⟨Le.refl _, True.intro⟩ True.intro rfl
  refine Ok.ret ?_
  cases h
  exact Fz.v

theorem w_law29_SweepKeeps [Off] {p_x : law29_Set} {p_now : Int} {p_at : UInt8} {r : Bool} (h : law29_SweepKeeps p_x p_now p_at = some r) : Pure Tryz.prog 4 [(.a [(.s (List.map c_api_Named p_x.Named)), (.s (List.map c_api_Room p_x.Rooms)), (.s (List.map c_api_Lease p_x.Leases)), (.s (List.map c_api_Disk p_x.Disks))]), (vi p_now), (vu p_at)] (vb r) := by
  refine pure_of_ok (n := 165) (c := (Tryz.f4.body.getD .skip)) Tryz.tok Tryz.func4 (by kernel_rfl) rfl rfl (Nat.le_of_ble_eq_true rfl) ?_
  unfold law29_SweepKeeps at h
  refine Ok.wk (Wk.tab (L := [(0, (.a [(.s (List.map c_api_Named p_x.Named)), (.s (List.map c_api_Room p_x.Rooms)), (.s (List.map c_api_Lease p_x.Leases)), (.s (List.map c_api_Disk p_x.Disks))])), (1, (vi p_now)), (2, (vu p_at))]) (H' := []) ⟨Le.refl _, Le.refl _, Le.refl _, True.intro⟩ True.intro rfl) ?_
  refine Ok.seq ?_
  refine Ok.region Tryz.tok ?_
  refine Ok.wk (Wk.tab (L := [(1, (vi p_now)), (2, (vu p_at)), (3, (.b 3 0))]) (H' := [(3, .box [(.s (List.map c_api_Named p_x.Named)), (.s (List.map c_api_Room p_x.Rooms)), (.s (List.map c_api_Lease p_x.Leases)), (.s (List.map c_api_Disk p_x.Disks))])]) ⟨Le.refl _, Le.refl _, Le.refl _, True.intro⟩ ⟨⟨_, rfl, .refl _⟩, True.intro⟩ rfl) ?_
  refine Ok.seq ?_
  refine Ok.region Tryz.tok ?_
  obtain ⟨x1, hx1, h⟩ := bindS h
  refine CallOk.call (w_law29_head hx1) (LeL.refl _) ?_
  refine Ok.wk (Wk.tab (L := [(1, (vi p_now)), (2, (vu p_at)), (3, (.b 3 0)), (7, (vb x1))]) (H' := [(3, .box [(.s (List.map c_api_Named p_x.Named)), (.s (List.map c_api_Room p_x.Rooms)), (.s (List.map c_api_Lease p_x.Leases)), (.s (List.map c_api_Disk p_x.Disks))])]) ⟨Le.refl _, Le.refl _, Le.refl _, Le.refl _, True.intro⟩ ⟨⟨_, rfl, .refl _⟩, True.intro⟩ rfl) ?_
  refine Ok.seq ?_
  refine Ok.seq ?_
  refine Ok.region Tryz.tok ?_
  obtain ⟨x2, hx2, h⟩ := bindS h
  refine ⟨_, rfl, ?_⟩
  refine CallOk.call (w_law29_Great hx2) (LeL.refl _) ?_
  refine Ok.wk (Wk.tab (L := [(1, (vi p_now)), (2, (vu p_at)), (3, (.b 3 0)), (7, (vb x1)), (23, (vb x2))]) (H' := [(3, .box [(.s (List.map c_api_Named p_x.Named)), (.s (List.map c_api_Room p_x.Rooms)), (.s (List.map c_api_Lease p_x.Leases)), (.s (List.map c_api_Disk p_x.Disks))])]) ⟨Le.refl _, Le.refl _, Le.refl _, Le.refl _, Le.refl _, True.intro⟩ ⟨⟨_, rfl, .refl _⟩, True.intro⟩ rfl) ?_
  refine Ok.cond (d := 23) (b := x2) rfl h (fun hb h => ?_) fun hb h => ?_
  · refine Ok.seq ?_
    refine Ok.region Tryz.tok ?_
    refine Ok.wk (Wk.tab (L := [(6, (vb x1))]) (H' := []) ⟨Le.refl _, True.intro⟩ True.intro rfl) ?_
    refine Ok.ret ?_
    cases h
    exact Fz.v
  · refine Ok.skip ?_
    refine Ok.seq ?_
    refine Ok.region Tryz.tok ?_
    obtain ⟨x3, hx3, h⟩ := bindS h
    refine ⟨_, rfl, ⟨_, rfl, ⟨_, rfl, ⟨_, rfl, ?_⟩⟩⟩⟩
    refine CallOk.call (w_sweep_Sweep hx3) (LeL.refl _) ?_
    refine Ok.wk (Wk.tab (L := [(1, (vi p_now)), (2, (vu p_at)), (3, (.b 3 0)), (7, (vb x1)), (8, (.s (List.map c_api_Disk x3.1))), (9, (.s (List.map c_api_Room x3.2)))]) (H' := [(3, .box [(.s (List.map c_api_Named p_x.Named)), (.s (List.map c_api_Room p_x.Rooms)), (.s (List.map c_api_Lease p_x.Leases)), (.s (List.map c_api_Disk p_x.Disks))])]) ⟨Le.refl _, Le.refl _, Le.refl _, Le.refl _, Le.refl _, Le.refl _, True.intro⟩ ⟨⟨_, rfl, .refl _⟩, True.intro⟩ rfl) ?_
    refine Ok.seq ?_
    refine Ok.seq ?_
    refine Ok.region Tryz.tok ?_
    refine ⟨_, List.length_map _, fun _ => ⟨_, rfl, ⟨_, List.length_map _, fun _ => ?_⟩⟩⟩
    refine Ok.wk (Wk.tab (L := [(1, (vi p_now)), (2, (vu p_at)), (3, (.b 3 0)), (7, (vb x1)), (8, (.s (List.map c_api_Disk x3.1))), (9, (.s (List.map c_api_Room x3.2))), (43, (vb (((x3.1.length : Int) != (p_x.Disks.length : Int)))))]) (H' := [(3, .box [(.s (List.map c_api_Named p_x.Named)), (.s (List.map c_api_Room p_x.Rooms)), (.s (List.map c_api_Lease p_x.Leases)), (.s (List.map c_api_Disk p_x.Disks))])]) ⟨Le.refl _, Le.refl _, Le.refl _, Le.refl _, Le.refl _, Le.refl _, Le.refl _, True.intro⟩ ⟨⟨_, rfl, .refl _⟩, True.intro⟩ rfl) ?_
    refine Ok.cond (d := 43) (b := ((x3.1.length : Int) != (p_x.Disks.length : Int))) rfl h (fun hb h => ?_) fun hb h => ?_
    · refine Ok.seq ?_
      refine Ok.region Tryz.tok ?_
      refine Ok.wk (Wk.tab (L := [(6, (vb false))]) (H' := []) ⟨Le.refl _, True.intro⟩ True.intro rfl) ?_
      refine Ok.ret ?_
      cases h
      exact Fz.v
    · refine Ok.skip ?_
      refine Ok.seq ?_
      refine Ok.region Tryz.tok ?_
      refine Ok.wk (Wk.tab (L := [(1, (vi p_now)), (2, (vu p_at)), (3, (.b 3 0)), (7, (vb x1)), (8, (.s (List.map c_api_Disk x3.1))), (9, (.s (List.map c_api_Room x3.2))), (10, (.v (.slice none 0 0)))]) (H' := [(3, .box [(.s (List.map c_api_Named p_x.Named)), (.s (List.map c_api_Room p_x.Rooms)), (.s (List.map c_api_Lease p_x.Leases)), (.s (List.map c_api_Disk p_x.Disks))])]) ⟨Le.refl _, Le.refl _, Le.refl _, Le.refl _, Le.refl _, Le.refl _, Le.refl _, True.intro⟩ ⟨⟨_, rfl, .refl _⟩, True.intro⟩ rfl) ?_
      obtain ⟨v1, hv1, h⟩ := bindS h
      refine Ok.seqw ⟨Cat.tab [(1, (vi p_now)), (3, (.b 3 0)), (7, (vb x1)), (8, (.s (List.map c_api_Disk x3.1))), (9, (.s (List.map c_api_Room x3.2))), (10, (.o 61))], [(3, .box [(.s (List.map c_api_Named p_x.Named)), (.s (List.map c_api_Room p_x.Rooms)), (.s (List.map c_api_Lease p_x.Leases)), (.s (List.map c_api_Disk p_x.Disks))]), (61, .own 3 1 (List.map Go.Cat.encI v1))]⟩ ?_ ?_
      · refine Ok.seq ?_
        refine Ok.region Tryz.tok ?_
        refine ⟨_, rfl, ⟨_, List.length_map _, fun _ => ?_⟩⟩
        refine Ok.wk (Wk.tab (L := [(1, (vi p_now)), (2, (vu p_at)), (3, (.b 3 0)), (7, (vb x1)), (8, (.s (List.map c_api_Disk x3.1))), (9, (.s (List.map c_api_Room x3.2))), (10, (.v (.slice none 0 0))), (47, (vb ((decide ((p_x.Named.length : Int) > 0)))))]) (H' := [(3, .box [(.s (List.map c_api_Named p_x.Named)), (.s (List.map c_api_Room p_x.Rooms)), (.s (List.map c_api_Lease p_x.Leases)), (.s (List.map c_api_Disk p_x.Disks))])]) ⟨Le.refl _, Le.refl _, Le.refl _, Le.refl _, Le.refl _, Le.refl _, Le.refl _, Le.refl _, True.intro⟩ ⟨⟨_, rfl, .refl _⟩, True.intro⟩ rfl) ?_
        refine Ok.cond (d := 47) (b := (decide ((p_x.Named.length : Int) > 0))) rfl hv1 (fun hb hv1 => ?_) fun hb hv1 => ?_
        · refine Ok.draw (m := 13) (MD := ⟨[]⟩) (CH := ⟨[]⟩) Tryz.tok Tryz.mixed (by kernel_rfl) ?_
          obtain ⟨hc1, hv1⟩ := chk_some hv1
          obtain ⟨x4, hx4, hv1⟩ := bindS hv1
          obtain ⟨hc2, hv1⟩ := chk_some hv1
          refine ⟨_, rfl, ⟨_, rfl, ⟨_, ⟨_, rfl, rfl⟩, ⟨_, rfl, ⟨_, ⟨_, wrap_of_u8 (k := .i64) (by decide) _, rfl⟩, ⟨_, rfl, ⟨_, ⟨_, rfl, rfl⟩, ⟨_, ⟨_, List.length_map _, fun _ => rfl⟩, ⟨_, ⟨hc1, _, rfl, rfl⟩, ⟨_, ⟨_, idx_nat hx4, _, idx_row hx4, rfl⟩, ⟨_, rfl, ⟨_, ⟨_, rfl, rfl⟩, ⟨_, rfl, ⟨True.intro, ⟨rowsLen_map (f := Go.Cat.encI) (n := 1) (fun _ => rfl) ([x4.Id]), app_b1 (f := Go.Cat.encI) (l' := ([x4.Id])) hc2, _, rfl, ?_⟩⟩⟩⟩⟩⟩⟩⟩⟩⟩⟩⟩⟩⟩⟩
          cases hv1
          exact Wk.tab ⟨Le.refl _, Le.refl _, Le.refl _, Le.refl _, Le.refl _, Le.refl _, True.intro⟩ ⟨⟨_, rfl, .refl _⟩, ⟨_, rfl, .refl _⟩, True.intro⟩ rfl
        · refine Ok.skip ?_
          cases hv1
          exact (Wk.own0 (t := 10) (id := 61) (E := 3) (K := 1) rfl rfl).trans (Wk.tab ⟨Le.refl _, Le.refl _, Le.refl _, Le.refl _, Le.refl _, Le.refl _, True.intro⟩ ⟨⟨_, rfl, .refl _⟩, ⟨_, rfl, .refl _⟩, True.intro⟩ rfl)
      refine Ok.seqj (fun v2 => ⟨Cat.tab [(3, (.b 3 0)), (7, (vb x1)), (8, (.s (List.map c_api_Disk x3.1))), (10, (.o 61))], [(3, .box [(.s (List.map c_api_Named p_x.Named)), (.s (List.map c_api_Room p_x.Rooms)), (.s (List.map c_api_Lease p_x.Leases)), (.s (List.map c_api_Disk p_x.Disks))]), (61, .own 3 1 (List.map Go.Cat.encI v2))]⟩) (fun v2 => law29_SweepKeeps_J1 x3 p_x x1 v2 = some r) ?_ ?_
      · refine Ok.seq ?_
        refine Ok.region Tryz.tok ?_
        refine Ok.wk (Wk.tab (L := [(1, (vi p_now)), (3, (.b 3 0)), (7, (vb x1)), (8, (.s (List.map c_api_Disk x3.1))), (9, (.s (List.map c_api_Room x3.2))), (10, (.o 61)), (11, (vi (0)))]) (H' := [(3, .box [(.s (List.map c_api_Named p_x.Named)), (.s (List.map c_api_Room p_x.Rooms)), (.s (List.map c_api_Lease p_x.Leases)), (.s (List.map c_api_Disk p_x.Disks))]), (61, .own 3 1 (List.map Go.Cat.encI v1))]) ⟨Le.refl _, Le.refl _, Le.refl _, Le.refl _, Le.refl _, Le.refl _, Le.refl _, True.intro⟩ ⟨⟨_, rfl, .refl _⟩, ⟨_, rfl, .refl _⟩, True.intro⟩ rfl) ?_
        refine Ok.block ?_
        refine Ok.loop (fun (s1 : Int × (List Int)) => ⟨Cat.tab [(1, (vi p_now)), (3, (.b 3 0)), (7, (vb x1)), (8, (.s (List.map c_api_Disk x3.1))), (9, (.s (List.map c_api_Room x3.2))), (10, (.o 61)), (11, (vi s1.1))], [(3, .box [(.s (List.map c_api_Named p_x.Named)), (.s (List.map c_api_Room p_x.Rooms)), (.s (List.map c_api_Lease p_x.Leases)), (.s (List.map c_api_Disk p_x.Disks))]), (61, .own 3 1 (List.map Go.Cat.encI s1.2))]⟩) (law29_SweepKeeps_B1 p_x p_now x3 x1) (s0 := (0, v1)) h (Wk.tab ⟨Le.refl _, Le.refl _, Le.refl _, Le.refl _, Le.refl _, Le.refl _, Le.refl _, True.intro⟩ ⟨⟨_, rfl, .refl _⟩, ⟨_, rfl, .refl _⟩, True.intro⟩ rfl) ?_
        intro s1 y1 hB1 hy1
        unfold law29_SweepKeeps_B1 at hB1
        refine Ok.seq ?_
        refine Ok.seq ?_
        refine Ok.region Tryz.tok ?_
        refine ⟨_, rfl, ⟨_, List.length_map _, fun _ => ?_⟩⟩
        refine Ok.wk (Wk.tab (L := [(1, (vi p_now)), (3, (.b 3 0)), (7, (vb x1)), (8, (.s (List.map c_api_Disk x3.1))), (9, (.s (List.map c_api_Room x3.2))), (10, (.o 61)), (11, (vi s1.1)), (66, (vb ((decide (s1.1 < (p_x.Rooms.length : Int))))))]) (H' := [(3, .box [(.s (List.map c_api_Named p_x.Named)), (.s (List.map c_api_Room p_x.Rooms)), (.s (List.map c_api_Lease p_x.Leases)), (.s (List.map c_api_Disk p_x.Disks))]), (61, .own 3 1 (List.map Go.Cat.encI s1.2))]) ⟨Le.refl _, Le.refl _, Le.refl _, Le.refl _, Le.refl _, Le.refl _, Le.refl _, Le.refl _, True.intro⟩ ⟨⟨_, rfl, .refl _⟩, ⟨_, rfl, .refl _⟩, True.intro⟩ rfl) ?_
        refine Ok.cond (d := 66) (b := (decide (s1.1 < (p_x.Rooms.length : Int)))) rfl hB1 (fun hb hB1 => ?_) fun hb hB1 => ?_
        · refine Ok.skip ?_
          refine Ok.seqj (fun v3 => ⟨Cat.tab [(1, (vi p_now)), (3, (.b 3 0)), (7, (vb x1)), (8, (.s (List.map c_api_Disk x3.1))), (9, (.s (List.map c_api_Room x3.2))), (10, (.o 61)), (11, (vi s1.1))], [(3, .box [(.s (List.map c_api_Named p_x.Named)), (.s (List.map c_api_Room p_x.Rooms)), (.s (List.map c_api_Lease p_x.Leases)), (.s (List.map c_api_Disk p_x.Disks))]), (61, .own 3 1 (List.map Go.Cat.encI v3))]⟩) (fun v3 => law29_SweepKeeps_J2 s1 v3 = some y1) ?_ ?_
          · refine Ok.block ?_
            refine Ok.seq ?_
            refine Ok.region Tryz.tok ?_
            obtain ⟨x5, hx5, hB1⟩ := bindS hB1
            refine ⟨_, rfl, ⟨_, idx_nat hx5, _, idx_row hx5, ⟨_, rfl, ⟨_, rfl, ?_⟩⟩⟩⟩
            refine Ok.wk (Wk.tab (L := [(1, (vi p_now)), (3, (.b 3 0)), (7, (vb x1)), (8, (.s (List.map c_api_Disk x3.1))), (9, (.s (List.map c_api_Room x3.2))), (10, (.o 61)), (11, (vi s1.1)), (12, (.b 12 0))]) (H' := [(3, .box [(.s (List.map c_api_Named p_x.Named)), (.s (List.map c_api_Room p_x.Rooms)), (.s (List.map c_api_Lease p_x.Leases)), (.s (List.map c_api_Disk p_x.Disks))]), (61, .own 3 1 (List.map Go.Cat.encI s1.2)), (12, .box [(vi x5.Id), (vi x5.Ino), (vi x5.Client)])]) ⟨Le.refl _, Le.refl _, Le.refl _, Le.refl _, Le.refl _, Le.refl _, Le.refl _, Le.refl _, True.intro⟩ ⟨⟨_, rfl, .refl _⟩, ⟨_, rfl, .refl _⟩, ⟨_, rfl, .refl _⟩, True.intro⟩ rfl) ?_
            refine Ok.seq ?_
            refine Ok.region Tryz.tok ?_
            refine Ok.wk (Wk.tab (L := [(1, (vi p_now)), (3, (.b 3 0)), (7, (vb x1)), (8, (.s (List.map c_api_Disk x3.1))), (9, (.s (List.map c_api_Room x3.2))), (10, (.o 61)), (11, (vi s1.1)), (12, (.b 12 0)), (13, (vi (0)))]) (H' := [(3, .box [(.s (List.map c_api_Named p_x.Named)), (.s (List.map c_api_Room p_x.Rooms)), (.s (List.map c_api_Lease p_x.Leases)), (.s (List.map c_api_Disk p_x.Disks))]), (61, .own 3 1 (List.map Go.Cat.encI s1.2)), (12, .box [(vi x5.Id), (vi x5.Ino), (vi x5.Client)])]) ⟨Le.refl _, Le.refl _, Le.refl _, Le.refl _, Le.refl _, Le.refl _, Le.refl _, Le.refl _, Le.refl _, True.intro⟩ ⟨⟨_, rfl, .refl _⟩, ⟨_, rfl, .refl _⟩, ⟨_, rfl, .refl _⟩, True.intro⟩ rfl) ?_
            refine Ok.block ?_
            refine Ok.loop (fun (s2 : Int) => ⟨Cat.tab [(1, (vi p_now)), (3, (.b 3 0)), (7, (vb x1)), (8, (.s (List.map c_api_Disk x3.1))), (9, (.s (List.map c_api_Room x3.2))), (10, (.o 61)), (11, (vi s1.1)), (12, (.b 12 0)), (13, (vi s2))], [(3, .box [(.s (List.map c_api_Named p_x.Named)), (.s (List.map c_api_Room p_x.Rooms)), (.s (List.map c_api_Lease p_x.Leases)), (.s (List.map c_api_Disk p_x.Disks))]), (61, .own 3 1 (List.map Go.Cat.encI s1.2)), (12, .box [(vi x5.Id), (vi x5.Ino), (vi x5.Client)])]⟩) (law29_SweepKeeps_B2 p_x x5 p_now s1 x3) (s0 := 0) hB1 (Wk.tab ⟨Le.refl _, Le.refl _, Le.refl _, Le.refl _, Le.refl _, Le.refl _, Le.refl _, Le.refl _, Le.refl _, True.intro⟩ ⟨⟨_, rfl, .refl _⟩, ⟨_, rfl, .refl _⟩, ⟨_, rfl, .refl _⟩, True.intro⟩ rfl) ?_
            intro s2 y2 hB2 hy2
            unfold law29_SweepKeeps_B2 at hB2
            refine Ok.seq ?_
            refine Ok.seq ?_
            refine Ok.region Tryz.tok ?_
            refine ⟨_, rfl, ⟨_, List.length_map _, fun _ => ?_⟩⟩
            refine Ok.wk (Wk.tab (L := [(1, (vi p_now)), (3, (.b 3 0)), (7, (vb x1)), (8, (.s (List.map c_api_Disk x3.1))), (9, (.s (List.map c_api_Room x3.2))), (10, (.o 61)), (11, (vi s1.1)), (12, (.b 12 0)), (13, (vi s2)), (78, (vb ((decide (s2 < (p_x.Leases.length : Int))))))]) (H' := [(3, .box [(.s (List.map c_api_Named p_x.Named)), (.s (List.map c_api_Room p_x.Rooms)), (.s (List.map c_api_Lease p_x.Leases)), (.s (List.map c_api_Disk p_x.Disks))]), (61, .own 3 1 (List.map Go.Cat.encI s1.2)), (12, .box [(vi x5.Id), (vi x5.Ino), (vi x5.Client)])]) ⟨Le.refl _, Le.refl _, Le.refl _, Le.refl _, Le.refl _, Le.refl _, Le.refl _, Le.refl _, Le.refl _, Le.refl _, True.intro⟩ ⟨⟨_, rfl, .refl _⟩, ⟨_, rfl, .refl _⟩, ⟨_, rfl, .refl _⟩, True.intro⟩ rfl) ?_
            refine Ok.cond (d := 78) (b := (decide (s2 < (p_x.Leases.length : Int)))) rfl hB2 (fun hb hB2 => ?_) fun hb hB2 => ?_
            · refine Ok.skip ?_
              refine Ok.seq ?_
              refine Ok.block ?_
              refine Ok.seq ?_
              refine Ok.region Tryz.tok ?_
              obtain ⟨x6, hx6, hB2⟩ := bindS hB2
              refine ⟨_, rfl, ⟨_, idx_nat hx6, _, idx_row hx6, ⟨_, rfl, ⟨_, rfl, ?_⟩⟩⟩⟩
              refine Ok.wk (Wk.tab (L := [(1, (vi p_now)), (3, (.b 3 0)), (7, (vb x1)), (8, (.s (List.map c_api_Disk x3.1))), (9, (.s (List.map c_api_Room x3.2))), (10, (.o 61)), (11, (vi s1.1)), (12, (.b 12 0)), (13, (vi s2)), (14, (.b 14 0))]) (H' := [(3, .box [(.s (List.map c_api_Named p_x.Named)), (.s (List.map c_api_Room p_x.Rooms)), (.s (List.map c_api_Lease p_x.Leases)), (.s (List.map c_api_Disk p_x.Disks))]), (61, .own 3 1 (List.map Go.Cat.encI s1.2)), (12, .box [(vi x5.Id), (vi x5.Ino), (vi x5.Client)]), (14, .box [(vi x6.Client), (vi x6.Ino), (vi x6.Kind), (vi x6.Span.From), (vi x6.Span.To), (vi x6.Until), (vi x6.Epoch)])]) ⟨Le.refl _, Le.refl _, Le.refl _, Le.refl _, Le.refl _, Le.refl _, Le.refl _, Le.refl _, Le.refl _, Le.refl _, True.intro⟩ ⟨⟨_, rfl, .refl _⟩, ⟨_, rfl, .refl _⟩, ⟨_, rfl, .refl _⟩, ⟨_, rfl, .refl _⟩, True.intro⟩ rfl) ?_
              obtain ⟨v4, hv4, hB2⟩ := bindS hB2
              refine Ok.seqw ⟨Cat.tab [(1, (vi p_now)), (3, (.b 3 0)), (7, (vb x1)), (8, (.s (List.map c_api_Disk x3.1))), (9, (.s (List.map c_api_Room x3.2))), (10, (.o 61)), (11, (vi s1.1)), (12, (.b 12 0)), (13, (vi s2)), (108, (vb v4))], [(3, .box [(.s (List.map c_api_Named p_x.Named)), (.s (List.map c_api_Room p_x.Rooms)), (.s (List.map c_api_Lease p_x.Leases)), (.s (List.map c_api_Disk p_x.Disks))]), (61, .own 3 1 (List.map Go.Cat.encI s1.2)), (12, .box [(vi x5.Id), (vi x5.Ino), (vi x5.Client)])]⟩ ?_ ?_
              · refine Ok.region Tryz.tok ?_
                refine ⟨_, rfl, ⟨_, rfl, ?_⟩⟩
                obtain ⟨c1, hg1, hv4⟩ := bindS hv4
                refine Br.ite hg1 (fun hb hg1 => ?_) fun hb hg1 => ?_
                · refine ⟨_, rfl, ⟨_, rfl, ?_⟩⟩
                  cases hg1
                  obtain ⟨c2, hg2, hv4⟩ := bindS hv4
                  refine Br.ite hg2 (fun hb hg2 => ?_) fun hb hg2 => ?_
                  · refine ⟨_, rfl, ?_⟩
                    cases hg2
                    obtain ⟨c3, hg3, hv4⟩ := bindS hv4
                    refine Br.ite hg3 (fun hb hg3 => ?_) fun hb hg3 => ?_
                    · refine ⟨_, rfl, ?_⟩
                      cases hg3
                      cases hv4
                      exact Wk.tab ⟨Le.refl _, Le.refl _, Le.refl _, Le.refl _, Le.refl _, Le.refl _, Le.refl _, Le.refl _, Le.refl _, Le.refl _, True.intro⟩ ⟨⟨_, rfl, .refl _⟩, ⟨_, rfl, .refl _⟩, ⟨_, rfl, .refl _⟩, True.intro⟩ rfl
                    · cases hg3
                      cases hv4
                      exact Wk.tab ⟨Le.refl _, Le.refl _, Le.refl _, Le.refl _, Le.refl _, Le.refl _, Le.refl _, Le.refl _, Le.refl _, Le.refl _, True.intro⟩ ⟨⟨_, rfl, .refl _⟩, ⟨_, rfl, .refl _⟩, ⟨_, rfl, .refl _⟩, True.intro⟩ rfl
                  · cases hg2
                    obtain ⟨c3, hg4, hv4⟩ := bindS hv4
                    replace hg4 := iteF hg4
                    cases hg4
                    cases hv4
                    exact Wk.tab ⟨Le.refl _, Le.refl _, Le.refl _, Le.refl _, Le.refl _, Le.refl _, Le.refl _, Le.refl _, Le.refl _, Le.refl _, True.intro⟩ ⟨⟨_, rfl, .refl _⟩, ⟨_, rfl, .refl _⟩, ⟨_, rfl, .refl _⟩, True.intro⟩ rfl
                · cases hg1
                  obtain ⟨c2, hg5, hv4⟩ := bindS hv4
                  replace hg5 := iteF hg5
                  cases hg5
                  obtain ⟨c3, hg6, hv4⟩ := bindS hv4
                  replace hg6 := iteF hg6
                  cases hg6
                  cases hv4
                  exact Wk.tab ⟨Le.refl _, Le.refl _, Le.refl _, Le.refl _, Le.refl _, Le.refl _, Le.refl _, Le.refl _, Le.refl _, Le.refl _, True.intro⟩ ⟨⟨_, rfl, .refl _⟩, ⟨_, rfl, .refl _⟩, ⟨_, rfl, .refl _⟩, True.intro⟩ rfl
              refine Ok.cond (d := 108) (b := v4) rfl hB2 (fun hb hB2 => ?_) fun hb hB2 => ?_
              · refine Ok.seq ?_
                refine Ok.region Tryz.tok ?_
                obtain ⟨hc3, hB2⟩ := chk_some hB2
                refine ⟨_, rfl, Or.inl ⟨rowsLen_map (f := Go.Cat.encI) (n := 1) (fun _ => rfl) ([x5.Id]), app_b2 (f := Go.Cat.encI) (l := s1.2) (l' := ([x5.Id])) hc3, _, (List.map_append (f := Go.Cat.encI) (l₁ := s1.2) (l₂ := ([x5.Id]))).symm, ?_⟩⟩
                refine Ok.wk (Wk.tab (L := [(1, (vi p_now)), (3, (.b 3 0)), (7, (vb x1)), (8, (.s (List.map c_api_Disk x3.1))), (9, (.s (List.map c_api_Room x3.2))), (10, (.o 61)), (11, (vi s1.1)), (12, (.b 12 0))]) (H' := [(3, .box [(.s (List.map c_api_Named p_x.Named)), (.s (List.map c_api_Room p_x.Rooms)), (.s (List.map c_api_Lease p_x.Leases)), (.s (List.map c_api_Disk p_x.Disks))]), (61, .own 3 1 (List.map Go.Cat.encI ((s1.2 ++ [x5.Id])))), (12, .box [(vi x5.Id), (vi x5.Ino), (vi x5.Client)])]) ⟨Le.refl _, Le.refl _, Le.refl _, Le.refl _, Le.refl _, Le.refl _, Le.refl _, Le.refl _, True.intro⟩ ⟨⟨_, rfl, .refl _⟩, ⟨_, rfl, .refl _⟩, ⟨_, rfl, .refl _⟩, True.intro⟩ rfl) ?_
                refine Ok.seq ?_
                refine Ok.seq ?_
                refine Ok.region Tryz.tok ?_
                obtain ⟨x7, hx7, hB2⟩ := bindS hB2
                refine ⟨_, rfl, ?_⟩
                refine CallOk.call (w_law29_room hx7) (LeL.refl _) ?_
                refine Ok.wk (Wk.tab (L := [(1, (vi p_now)), (3, (.b 3 0)), (7, (vb x1)), (8, (.s (List.map c_api_Disk x3.1))), (9, (.s (List.map c_api_Room x3.2))), (10, (.o 61)), (11, (vi s1.1)), (117, (vb ((!x7))))]) (H' := [(3, .box [(.s (List.map c_api_Named p_x.Named)), (.s (List.map c_api_Room p_x.Rooms)), (.s (List.map c_api_Lease p_x.Leases)), (.s (List.map c_api_Disk p_x.Disks))]), (61, .own 3 1 (List.map Go.Cat.encI ((s1.2 ++ [x5.Id]))))]) ⟨Le.refl _, Le.refl _, Le.refl _, Le.refl _, Le.refl _, Le.refl _, Le.refl _, Le.refl _, True.intro⟩ ⟨⟨_, rfl, .refl _⟩, ⟨_, rfl, .refl _⟩, True.intro⟩ rfl) ?_
                refine Ok.cond (d := 117) (b := (!x7)) rfl hB2 (fun hb hB2 => ?_) fun hb hB2 => ?_
                · refine Ok.seq ?_
                  refine Ok.region Tryz.tok ?_
                  refine Ok.wk (Wk.tab (L := [(6, (vb false))]) (H' := []) ⟨Le.refl _, True.intro⟩ True.intro rfl) ?_
                  refine Ok.ret ?_
                  have hB2 := out_ret hB2 hy2
                  have hB2 := out_ret hB2 hy1
                  cases hB2
                  exact Fz.v
                · refine Ok.skip ?_
                  refine Ok.exit ?_
                  have hB2 := out_ret hB2 hy2
                  exact ⟨_, hB2, Wk.tab ⟨Le.refl _, Le.refl _, Le.refl _, Le.refl _, Le.refl _, Le.refl _, Le.refl _, True.intro⟩ ⟨⟨_, rfl, .refl _⟩, ⟨_, rfl, .refl _⟩, True.intro⟩ rfl⟩
              · refine Ok.skip ?_
                refine Ok.region Tryz.tok ?_
                obtain ⟨hc4, hB2⟩ := chk_some hB2
                refine (Or.inl ⟨hc4, ?_⟩)
                exact ⟨_, (Option.some.inj hB2).symm, Wk.tab ⟨Le.refl _, Le.refl _, Le.refl _, Le.refl _, Le.refl _, Le.refl _, Le.refl _, Le.refl _, Le.refl _, True.intro⟩ ⟨⟨_, rfl, .refl _⟩, ⟨_, rfl, .refl _⟩, ⟨_, rfl, .refl _⟩, True.intro⟩ rfl⟩
            · refine Ok.exit ?_
              have hB2 := out_ret hB2 hy2
              exact ⟨_, hB2, Wk.tab ⟨Le.refl _, Le.refl _, Le.refl _, Le.refl _, Le.refl _, Le.refl _, Le.refl _, True.intro⟩ ⟨⟨_, rfl, .refl _⟩, ⟨_, rfl, .refl _⟩, True.intro⟩ rfl⟩
          intro v3 hB1
          unfold law29_SweepKeeps_J2 at hB1
          refine Ok.region Tryz.tok ?_
          obtain ⟨hc5, hB1⟩ := chk_some hB1
          refine (Or.inl ⟨hc5, ?_⟩)
          exact ⟨_, (Option.some.inj hB1).symm, Wk.tab ⟨Le.refl _, Le.refl _, Le.refl _, Le.refl _, Le.refl _, Le.refl _, Le.refl _, True.intro⟩ ⟨⟨_, rfl, .refl _⟩, ⟨_, rfl, .refl _⟩, True.intro⟩ rfl⟩
        · refine Ok.exit ?_
          have hB1 := out_ret hB1 hy1
          exact ⟨_, hB1, Wk.tab ⟨Le.refl _, Le.refl _, Le.refl _, Le.refl _, True.intro⟩ ⟨⟨_, rfl, .refl _⟩, ⟨_, rfl, .refl _⟩, True.intro⟩ rfl⟩
      intro v2 h
      unfold law29_SweepKeeps_J1 at h
      refine Ok.seqj (fun v5 => ⟨Cat.tab [(7, (vb x1))], []⟩) (fun v5 => law29_SweepKeeps_J3 x1 v5 = some r) ?_ ?_
      · refine Ok.seq ?_
        refine Ok.region Tryz.tok ?_
        refine Ok.wk (Wk.tab (L := [(3, (.b 3 0)), (7, (vb x1)), (8, (.s (List.map c_api_Disk x3.1))), (10, (.o 61)), (15, (vi (0)))]) (H' := [(3, .box [(.s (List.map c_api_Named p_x.Named)), (.s (List.map c_api_Room p_x.Rooms)), (.s (List.map c_api_Lease p_x.Leases)), (.s (List.map c_api_Disk p_x.Disks))]), (61, .own 3 1 (List.map Go.Cat.encI v2))]) ⟨Le.refl _, Le.refl _, Le.refl _, Le.refl _, Le.refl _, True.intro⟩ ⟨⟨_, rfl, .refl _⟩, ⟨_, rfl, .refl _⟩, True.intro⟩ rfl) ?_
        refine Ok.block ?_
        refine Ok.loop (fun (s3 : Int) => ⟨Cat.tab [(3, (.b 3 0)), (7, (vb x1)), (8, (.s (List.map c_api_Disk x3.1))), (10, (.o 61)), (15, (vi s3))], [(3, .box [(.s (List.map c_api_Named p_x.Named)), (.s (List.map c_api_Room p_x.Rooms)), (.s (List.map c_api_Lease p_x.Leases)), (.s (List.map c_api_Disk p_x.Disks))]), (61, .own 3 1 (List.map Go.Cat.encI v2))]⟩) (law29_SweepKeeps_B3 v2 x3 p_x x1) (s0 := 0) h (Wk.tab ⟨Le.refl _, Le.refl _, Le.refl _, Le.refl _, Le.refl _, True.intro⟩ ⟨⟨_, rfl, .refl _⟩, ⟨_, rfl, .refl _⟩, True.intro⟩ rfl) ?_
        intro s3 y3 hB3 hy3
        unfold law29_SweepKeeps_B3 at hB3
        refine Ok.seq ?_
        refine Ok.seq ?_
        refine Ok.region Tryz.tok ?_
        refine ⟨_, List.length_map _, fun _ => ?_⟩
        refine Ok.wk (Wk.tab (L := [(3, (.b 3 0)), (7, (vb x1)), (8, (.s (List.map c_api_Disk x3.1))), (10, (.o 61)), (15, (vi s3)), (121, (vb ((decide (s3 < (v2.length : Int))))))]) (H' := [(3, .box [(.s (List.map c_api_Named p_x.Named)), (.s (List.map c_api_Room p_x.Rooms)), (.s (List.map c_api_Lease p_x.Leases)), (.s (List.map c_api_Disk p_x.Disks))]), (61, .own 3 1 (List.map Go.Cat.encI v2))]) ⟨Le.refl _, Le.refl _, Le.refl _, Le.refl _, Le.refl _, Le.refl _, True.intro⟩ ⟨⟨_, rfl, .refl _⟩, ⟨_, rfl, .refl _⟩, True.intro⟩ rfl) ?_
        refine Ok.cond (d := 121) (b := (decide (s3 < (v2.length : Int)))) rfl hB3 (fun hb hB3 => ?_) fun hb hB3 => ?_
        · refine Ok.skip ?_
          refine Ok.seqj (fun v6 => ⟨Cat.tab [(3, (.b 3 0)), (7, (vb x1)), (8, (.s (List.map c_api_Disk x3.1))), (10, (.o 61)), (15, (vi s3))], [(3, .box [(.s (List.map c_api_Named p_x.Named)), (.s (List.map c_api_Room p_x.Rooms)), (.s (List.map c_api_Lease p_x.Leases)), (.s (List.map c_api_Disk p_x.Disks))]), (61, .own 3 1 (List.map Go.Cat.encI v2))]⟩) (fun v6 => law29_SweepKeeps_J4 s3 v6 = some y3) ?_ ?_
          · refine Ok.block ?_
            refine Ok.seq ?_
            refine Ok.region Tryz.tok ?_
            refine Ok.wk (Wk.tab (L := [(3, (.b 3 0)), (7, (vb x1)), (8, (.s (List.map c_api_Disk x3.1))), (10, (.o 61)), (15, (vi s3)), (16, (vi (0)))]) (H' := [(3, .box [(.s (List.map c_api_Named p_x.Named)), (.s (List.map c_api_Room p_x.Rooms)), (.s (List.map c_api_Lease p_x.Leases)), (.s (List.map c_api_Disk p_x.Disks))]), (61, .own 3 1 (List.map Go.Cat.encI v2))]) ⟨Le.refl _, Le.refl _, Le.refl _, Le.refl _, Le.refl _, Le.refl _, True.intro⟩ ⟨⟨_, rfl, .refl _⟩, ⟨_, rfl, .refl _⟩, True.intro⟩ rfl) ?_
            refine Ok.block ?_
            refine Ok.loop (fun (s4 : Int) => ⟨Cat.tab [(3, (.b 3 0)), (7, (vb x1)), (8, (.s (List.map c_api_Disk x3.1))), (10, (.o 61)), (15, (vi s3)), (16, (vi s4))], [(3, .box [(.s (List.map c_api_Named p_x.Named)), (.s (List.map c_api_Room p_x.Rooms)), (.s (List.map c_api_Lease p_x.Leases)), (.s (List.map c_api_Disk p_x.Disks))]), (61, .own 3 1 (List.map Go.Cat.encI v2))]⟩) (law29_SweepKeeps_B4 x3 p_x v2 s3) (s0 := 0) hB3 (Wk.tab ⟨Le.refl _, Le.refl _, Le.refl _, Le.refl _, Le.refl _, Le.refl _, True.intro⟩ ⟨⟨_, rfl, .refl _⟩, ⟨_, rfl, .refl _⟩, True.intro⟩ rfl) ?_
            intro s4 y4 hB4 hy4
            unfold law29_SweepKeeps_B4 at hB4
            refine Ok.seq ?_
            refine Ok.seq ?_
            refine Ok.region Tryz.tok ?_
            refine ⟨_, List.length_map _, fun _ => ?_⟩
            refine Ok.wk (Wk.tab (L := [(3, (.b 3 0)), (7, (vb x1)), (8, (.s (List.map c_api_Disk x3.1))), (10, (.o 61)), (15, (vi s3)), (16, (vi s4)), (127, (vb ((decide (s4 < (x3.1.length : Int))))))]) (H' := [(3, .box [(.s (List.map c_api_Named p_x.Named)), (.s (List.map c_api_Room p_x.Rooms)), (.s (List.map c_api_Lease p_x.Leases)), (.s (List.map c_api_Disk p_x.Disks))]), (61, .own 3 1 (List.map Go.Cat.encI v2))]) ⟨Le.refl _, Le.refl _, Le.refl _, Le.refl _, Le.refl _, Le.refl _, Le.refl _, True.intro⟩ ⟨⟨_, rfl, .refl _⟩, ⟨_, rfl, .refl _⟩, True.intro⟩ rfl) ?_
            refine Ok.cond (d := 127) (b := (decide (s4 < (x3.1.length : Int)))) rfl hB4 (fun hb hB4 => ?_) fun hb hB4 => ?_
            · refine Ok.skip ?_
              refine Ok.seq ?_
              refine Ok.block ?_
              refine Ok.seq ?_
              refine Ok.draw2 (m := 14) (late := [12]) (MD := ⟨[]⟩) (CH := ⟨[]⟩) Tryz.tok Tryz.mixed (by kernel_rfl) ?_
              obtain ⟨x8, hx8, hB4⟩ := bindS hB4
              obtain ⟨x9, hx9, hB4⟩ := bindS hB4
              obtain ⟨x10, hx10, hB4⟩ := bindS hB4
              refine ⟨_, rfl, ⟨_, ⟨_, rfl, rfl⟩, ⟨_, rfl, ⟨_, ⟨_, idx_nat hx8, _, idx_row hx8, rfl⟩, ⟨_, ⟨_, rfl, rfl⟩, ⟨_, rfl, ⟨_, rfl, ⟨_, ⟨_, idx_nat hx9, idx_ltm hx9, rfl⟩, ⟨_, ⟨_, idx_row hx9, rfl, _, rfl, rfl⟩, ⟨_, ⟨_, .of_pure (w_chunk_Get hx10) (LeL.refl _), rfl⟩, ⟨_, rfl, ⟨_, rfl, ⟨_, rfl, ⟨True.intro, ?_⟩⟩⟩⟩⟩⟩⟩⟩⟩⟩⟩⟩⟩⟩
              refine ⟨_, rfl, ⟨⟨⟨_, rfl, rfl⟩, True.intro⟩, ?_⟩⟩
              refine Ok.wk (Wk.tab (L := [(3, (.b 3 0)), (7, (vb x1)), (8, (.s (List.map c_api_Disk x3.1))), (10, (.o 61)), (15, (vi s3)), (16, (vi s4)), (17, (.b 17 0)), (18, (vi x10.2))]) (H' := [(3, .box [(.s (List.map c_api_Named p_x.Named)), (.s (List.map c_api_Room p_x.Rooms)), (.s (List.map c_api_Lease p_x.Leases)), (.s (List.map c_api_Disk p_x.Disks))]), (61, .own 3 1 (List.map Go.Cat.encI v2)), (17, .box [(vi x10.1.Id), (vi x10.1.Ver), (.s (List.map cU8 x10.1.Data)), (.s (List.map Go.Cat.encI x10.1.Sums))])]) ⟨Le.refl _, Le.refl _, Le.refl _, Le.refl _, Le.refl _, Le.refl _, Le.refl _, Le.refl _, True.intro⟩ ⟨⟨_, rfl, .refl _⟩, ⟨_, rfl, .refl _⟩, ⟨_, rfl, .refl _⟩, True.intro⟩ rfl) ?_
              refine Ok.seq ?_
              refine Ok.draw2 (m := 13) (late := [11]) (MD := ⟨[]⟩) (CH := ⟨[]⟩) Tryz.tok Tryz.mixed (by kernel_rfl) ?_
              obtain ⟨x11, hx11, hB4⟩ := bindS hB4
              obtain ⟨x12, hx12, hB4⟩ := bindS hB4
              obtain ⟨x13, hx13, hB4⟩ := bindS hB4
              refine ⟨_, rfl, ⟨_, rfl, ⟨_, ⟨_, idx_nat hx11, _, idx_row hx11, rfl⟩, ⟨_, ⟨_, rfl, rfl⟩, ⟨_, rfl, ⟨_, rfl, ⟨_, ⟨_, idx_nat hx12, idx_ltm hx12, rfl⟩, ⟨_, ⟨_, idx_row hx12, rfl, _, rfl, rfl⟩, ⟨_, ⟨_, .of_pure (w_chunk_Get hx13) (LeL.refl _), rfl⟩, ⟨_, rfl, ⟨_, rfl, ⟨_, rfl, ⟨True.intro, ?_⟩⟩⟩⟩⟩⟩⟩⟩⟩⟩⟩⟩⟩
              refine ⟨_, rfl, ⟨⟨⟨_, rfl, rfl⟩, True.intro⟩, ?_⟩⟩
              refine Ok.wk (Wk.tab (L := [(3, (.b 3 0)), (7, (vb x1)), (8, (.s (List.map c_api_Disk x3.1))), (10, (.o 61)), (15, (vi s3)), (16, (vi s4)), (17, (.b 17 0)), (18, (vi x10.2)), (19, (.b 19 0)), (20, (vi x13.2))]) (H' := [(3, .box [(.s (List.map c_api_Named p_x.Named)), (.s (List.map c_api_Room p_x.Rooms)), (.s (List.map c_api_Lease p_x.Leases)), (.s (List.map c_api_Disk p_x.Disks))]), (61, .own 3 1 (List.map Go.Cat.encI v2)), (17, .box [(vi x10.1.Id), (vi x10.1.Ver), (.s (List.map cU8 x10.1.Data)), (.s (List.map Go.Cat.encI x10.1.Sums))]), (19, .box [(vi x13.1.Id), (vi x13.1.Ver), (.s (List.map cU8 x13.1.Data)), (.s (List.map Go.Cat.encI x13.1.Sums))])]) ⟨Le.refl _, Le.refl _, Le.refl _, Le.refl _, Le.refl _, Le.refl _, Le.refl _, Le.refl _, Le.refl _, Le.refl _, True.intro⟩ ⟨⟨_, rfl, .refl _⟩, ⟨_, rfl, .refl _⟩, ⟨_, rfl, .refl _⟩, ⟨_, rfl, .refl _⟩, True.intro⟩ rfl) ?_
              obtain ⟨v7, hv7, hB4⟩ := bindS hB4
              refine Ok.seqw ⟨Cat.tab [(3, (.b 3 0)), (7, (vb x1)), (8, (.s (List.map c_api_Disk x3.1))), (10, (.o 61)), (15, (vi s3)), (16, (vi s4)), (163, (vb v7))], [(3, .box [(.s (List.map c_api_Named p_x.Named)), (.s (List.map c_api_Room p_x.Rooms)), (.s (List.map c_api_Lease p_x.Leases)), (.s (List.map c_api_Disk p_x.Disks))]), (61, .own 3 1 (List.map Go.Cat.encI v2))]⟩ ?_ ?_
              · refine Ok.region Tryz.tok ?_
                obtain ⟨c4, hg7, hv7⟩ := bindS hv7
                refine Br.itf hg7 (fun hb hg7 => ?_) fun hb hg7 => ?_
                · cases hg7
                  cases hv7
                  exact Wk.tab ⟨Le.refl _, Le.refl _, Le.refl _, Le.refl _, Le.refl _, Le.refl _, Le.refl _, True.intro⟩ ⟨⟨_, rfl, .refl _⟩, ⟨_, rfl, .refl _⟩, True.intro⟩ rfl
                · obtain ⟨x14, hx14, hg7⟩ := bindS hg7
                  refine ⟨_, rfl, ⟨_, rfl, ?_⟩⟩
                  refine CallOk.call (w_ref25_Same hx14) (LeL.refl _) ?_
                  cases hg7
                  cases hv7
                  exact Wk.tab ⟨Le.refl _, Le.refl _, Le.refl _, Le.refl _, Le.refl _, Le.refl _, Le.refl _, True.intro⟩ ⟨⟨_, rfl, .refl _⟩, ⟨_, rfl, .refl _⟩, True.intro⟩ rfl
              refine Ok.cond (d := 163) (b := v7) rfl hB4 (fun hb hB4 => ?_) fun hb hB4 => ?_
              · refine Ok.seq ?_
                refine Ok.region Tryz.tok ?_
                refine Ok.wk (Wk.tab (L := [(6, (vb false))]) (H' := []) ⟨Le.refl _, True.intro⟩ True.intro rfl) ?_
                refine Ok.ret ?_
                have hB4 := out_ret hB4 hy4
                have hB4 := out_ret hB4 hy3
                cases hB4
                exact Fz.v
              · refine Ok.skip ?_
                refine Ok.region Tryz.tok ?_
                obtain ⟨hc6, hB4⟩ := chk_some hB4
                refine (Or.inl ⟨hc6, ?_⟩)
                exact ⟨_, (Option.some.inj hB4).symm, Wk.tab ⟨Le.refl _, Le.refl _, Le.refl _, Le.refl _, Le.refl _, Le.refl _, True.intro⟩ ⟨⟨_, rfl, .refl _⟩, ⟨_, rfl, .refl _⟩, True.intro⟩ rfl⟩
            · refine Ok.exit ?_
              have hB4 := out_ret hB4 hy4
              exact ⟨_, hB4, Wk.tab ⟨Le.refl _, Le.refl _, Le.refl _, Le.refl _, Le.refl _, True.intro⟩ ⟨⟨_, rfl, .refl _⟩, ⟨_, rfl, .refl _⟩, True.intro⟩ rfl⟩
          intro v6 hB3
          unfold law29_SweepKeeps_J4 at hB3
          refine Ok.region Tryz.tok ?_
          obtain ⟨hc7, hB3⟩ := chk_some hB3
          refine (Or.inl ⟨hc7, ?_⟩)
          exact ⟨_, (Option.some.inj hB3).symm, Wk.tab ⟨Le.refl _, Le.refl _, Le.refl _, Le.refl _, Le.refl _, True.intro⟩ ⟨⟨_, rfl, .refl _⟩, ⟨_, rfl, .refl _⟩, True.intro⟩ rfl⟩
        · refine Ok.exit ?_
          have hB3 := out_ret hB3 hy3
          exact ⟨_, hB3, Wk.tab ⟨Le.refl _, True.intro⟩ True.intro rfl⟩
      intro v5 h
      unfold law29_SweepKeeps_J3 at h
      refine Ok.seq ?_
      refine Ok.region Tryz.tok ?_
      refine Ok.wk (Wk.tab (L := [(6, (vb x1))]) (H' := []) ⟨Le.refl _, True.intro⟩ True.intro rfl) ?_
      refine Ok.ret ?_
      cases h
      exact Fz.v

end Go.Proofs
