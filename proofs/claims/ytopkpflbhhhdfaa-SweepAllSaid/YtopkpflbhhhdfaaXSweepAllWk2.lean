/- The walks of this seat beside the plain programs, part 2. No condition. -/
import Derived.Test.YtopkpflbhhhdfaaXSweepAllEn
import Derived.Test.YtopkpflbhhhdfaaXSweepAllWk0
import Derived.Test.YtopkpflbhhhdfaaXSweepAllWk1
namespace Go.Proofs
set_option linter.all false
open Go Go.Cat
variable [M : Mono]
set_option maxRecDepth 100000

theorem w_ref04_Right {p_d : api_Disk} {r : Bool} (h : ref04_Right p_d = some r) : Pure Try.prog 63 [(.a [(.s (List.map c_api_Page p_d.Synced)), (.s (List.map c_api_Page p_d.Loose)), (vb p_d.Down)])] (vb r) := by
  refine pure_of_ok (n := 66) (c := (Try.f63.body.getD .skip)) Try.tok Try.func63 (by kernel_rfl) rfl rfl (Nat.le_of_ble_eq_true rfl) ?_
  unfold ref04_Right at h
  refine Ok.wk (Wk.tab (L := [(0, (.a [(.s (List.map c_api_Page p_d.Synced)), (.s (List.map c_api_Page p_d.Loose)), (vb p_d.Down)]))]) (H' := []) ⟨Le.refl _, True.intro⟩ True.intro rfl) ?_
  refine Ok.seq ?_
  refine Ok.region Try.tok ?_
  refine Ok.wk (Wk.tab (L := [(1, (.b 1 0))]) (H' := [(1, .box [(.s (List.map c_api_Page p_d.Synced)), (.s (List.map c_api_Page p_d.Loose)), (vb p_d.Down)])]) ⟨Le.refl _, True.intro⟩ ⟨⟨_, rfl, .refl _⟩, True.intro⟩ rfl) ?_
  refine Ok.seqj (fun v1 => ⟨Cat.tab [(1, (.b 1 0))], [(1, .box [(.s (List.map c_api_Page p_d.Synced)), (.s (List.map c_api_Page p_d.Loose)), (vb p_d.Down)])]⟩) (fun v1 => ref04_Right_J1 p_d v1 = some r) ?_ ?_
  · refine Ok.seq ?_
    refine Ok.region Try.tok ?_
    refine Ok.wk (Wk.tab (L := [(1, (.b 1 0)), (3, (vi (0)))]) (H' := [(1, .box [(.s (List.map c_api_Page p_d.Synced)), (.s (List.map c_api_Page p_d.Loose)), (vb p_d.Down)])]) ⟨Le.refl _, Le.refl _, True.intro⟩ ⟨⟨_, rfl, .refl _⟩, True.intro⟩ rfl) ?_
    refine Ok.block ?_
    refine Ok.loop (fun (s1 : Int) => ⟨Cat.tab [(1, (.b 1 0)), (3, (vi s1))], [(1, .box [(.s (List.map c_api_Page p_d.Synced)), (.s (List.map c_api_Page p_d.Loose)), (vb p_d.Down)])]⟩) (ref04_Right_B1 p_d) (s0 := 0) h (Wk.tab ⟨Le.refl _, Le.refl _, True.intro⟩ ⟨⟨_, rfl, .refl _⟩, True.intro⟩ rfl) ?_
    intro s1 y1 hB1 hy1
    unfold ref04_Right_B1 at hB1
    refine Ok.seq ?_
    refine Ok.seq ?_
    refine Ok.region Try.tok ?_
    refine ⟨_, rfl, ⟨_, List.length_map _, fun _ => ?_⟩⟩
    refine Ok.wk (Wk.tab (L := [(1, (.b 1 0)), (3, (vi s1)), (11, (vb ((decide (s1 < (p_d.Synced.length : Int))))))]) (H' := [(1, .box [(.s (List.map c_api_Page p_d.Synced)), (.s (List.map c_api_Page p_d.Loose)), (vb p_d.Down)])]) ⟨Le.refl _, Le.refl _, Le.refl _, True.intro⟩ ⟨⟨_, rfl, .refl _⟩, True.intro⟩ rfl) ?_
    refine Ok.cond (d := 11) (b := (decide (s1 < (p_d.Synced.length : Int)))) rfl hB1 (fun hb hB1 => ?_) fun hb hB1 => ?_
    · refine Ok.skip ?_
      refine Ok.seq ?_
      refine Ok.block ?_
      refine Ok.seq ?_
      refine Ok.region Try.tok ?_
      obtain ⟨x1, hx1, hB1⟩ := bindS hB1
      obtain ⟨x2, hx2, hB1⟩ := bindS hB1
      refine ⟨_, rfl, ⟨_, idx_nat hx1, _, idx_row hx1, ⟨_, rfl, ?_⟩⟩⟩
      refine CallOk.call (w_ref04_Page hx2) (LeL.refl _) ?_
      refine Ok.wk (Wk.tab (L := [(1, (.b 1 0)), (3, (vi s1)), (4, (vb x2))]) (H' := [(1, .box [(.s (List.map c_api_Page p_d.Synced)), (.s (List.map c_api_Page p_d.Loose)), (vb p_d.Down)])]) ⟨Le.refl _, Le.refl _, Le.refl _, True.intro⟩ ⟨⟨_, rfl, .refl _⟩, True.intro⟩ rfl) ?_
      obtain ⟨v2, hv2, hB1⟩ := bindS hB1
      refine Ok.seqw ⟨Cat.tab [(1, (.b 1 0)), (3, (vi s1)), (41, (vb v2))], [(1, .box [(.s (List.map c_api_Page p_d.Synced)), (.s (List.map c_api_Page p_d.Loose)), (vb p_d.Down)])]⟩ ?_ ?_
      · refine Ok.draw (m := 22) (MD := ⟨[]⟩) (CH := ⟨[]⟩) Try.tok Try.mixed (by kernel_rfl) ?_
        refine ⟨_, rfl, ⟨_, rfl, ⟨_, rfl, ?_⟩⟩⟩
        obtain ⟨c2, hg1, hv2⟩ := bindS hv2
        refine Br.itf hg1 (fun hb hg1 => ?_) fun hb hg1 => ?_
        · cases hg1
          refine ⟨_, rfl, ?_⟩
          refine ⟨True.intro, ?_⟩
          cases hv2
          exact Wk.tab ⟨Le.refl _, Le.refl _, Le.refl _, True.intro⟩ ⟨⟨_, rfl, .refl _⟩, True.intro⟩ rfl
        · refine ⟨_, rfl, ⟨_, rfl, ⟨_, rfl, ?_⟩⟩⟩
          obtain ⟨c1, hg2, hg1⟩ := bindS hg1
          refine Br.ite hg2 (fun hb hg2 => ?_) fun hb hg2 => ?_
          · obtain ⟨x3, hx3, hg2⟩ := bindS hg2
            obtain ⟨hc1, hg2⟩ := chk_some hg2
            obtain ⟨x4, hx4, hg2⟩ := bindS hg2
            refine ⟨_, rfl, ⟨_, ⟨_, rfl, rfl⟩, ⟨_, rfl, ⟨_, ⟨_, idx_nat hx3, _, idx_row hx3, rfl⟩, ⟨_, rfl, ⟨_, ⟨_, rfl, rfl⟩, ⟨_, rfl, ⟨_, ⟨_, rfl, rfl⟩, ⟨_, rfl, ⟨_, (Or.inl ⟨hc1, rfl⟩), ⟨_, ⟨_, idx_nat hx4, _, idx_row hx4, rfl⟩, ⟨_, rfl, ⟨_, ⟨_, rfl, rfl⟩, ⟨_, rfl, ?_⟩⟩⟩⟩⟩⟩⟩⟩⟩⟩⟩⟩⟩⟩
            cases hg2
            refine ⟨_, rfl, ?_⟩
            cases hg1
            refine ⟨_, rfl, ?_⟩
            refine ⟨True.intro, ?_⟩
            cases hv2
            exact Wk.tab ⟨Le.refl _, Le.refl _, Le.refl _, True.intro⟩ ⟨⟨_, rfl, .refl _⟩, True.intro⟩ rfl
          · cases hg2
            refine ⟨_, rfl, ?_⟩
            cases hg1
            refine ⟨_, rfl, ?_⟩
            refine ⟨True.intro, ?_⟩
            cases hv2
            exact Wk.tab ⟨Le.refl _, Le.refl _, Le.refl _, True.intro⟩ ⟨⟨_, rfl, .refl _⟩, True.intro⟩ rfl
      refine Ok.cond (d := 41) (b := v2) rfl hB1 (fun hb hB1 => ?_) fun hb hB1 => ?_
      · refine Ok.seq ?_
        refine Ok.region Try.tok ?_
        refine Ok.wk (Wk.tab (L := [(2, (vb false))]) (H' := []) ⟨Le.refl _, True.intro⟩ True.intro rfl) ?_
        refine Ok.ret ?_
        have hB1 := out_ret hB1 hy1
        cases hB1
        exact Fz.v
      · refine Ok.skip ?_
        refine Ok.region Try.tok ?_
        obtain ⟨hc2, hB1⟩ := chk_some hB1
        refine (Or.inl ⟨hc2, ?_⟩)
        exact ⟨_, (Option.some.inj hB1).symm, Wk.tab ⟨Le.refl _, Le.refl _, True.intro⟩ ⟨⟨_, rfl, .refl _⟩, True.intro⟩ rfl⟩
    · refine Ok.exit ?_
      have hB1 := out_ret hB1 hy1
      exact ⟨_, hB1, Wk.tab ⟨Le.refl _, True.intro⟩ ⟨⟨_, rfl, .refl _⟩, True.intro⟩ rfl⟩
  intro v1 h
  unfold ref04_Right_J1 at h
  refine Ok.seqj (fun v3 => ⟨Cat.tab [(1, (.b 1 0))], [(1, .box [(.s (List.map c_api_Page p_d.Synced)), (.s (List.map c_api_Page p_d.Loose)), (vb p_d.Down)])]⟩) (fun v3 => ref04_Right_J2 p_d v3 = some r) ?_ ?_
  · refine Ok.seq ?_
    refine Ok.region Try.tok ?_
    refine Ok.wk (Wk.tab (L := [(1, (.b 1 0)), (5, (vi (0)))]) (H' := [(1, .box [(.s (List.map c_api_Page p_d.Synced)), (.s (List.map c_api_Page p_d.Loose)), (vb p_d.Down)])]) ⟨Le.refl _, Le.refl _, True.intro⟩ ⟨⟨_, rfl, .refl _⟩, True.intro⟩ rfl) ?_
    refine Ok.block ?_
    refine Ok.loop (fun (s2 : Int) => ⟨Cat.tab [(1, (.b 1 0)), (5, (vi s2))], [(1, .box [(.s (List.map c_api_Page p_d.Synced)), (.s (List.map c_api_Page p_d.Loose)), (vb p_d.Down)])]⟩) (ref04_Right_B2 p_d) (s0 := 0) h (Wk.tab ⟨Le.refl _, Le.refl _, True.intro⟩ ⟨⟨_, rfl, .refl _⟩, True.intro⟩ rfl) ?_
    intro s2 y2 hB2 hy2
    unfold ref04_Right_B2 at hB2
    refine Ok.seq ?_
    refine Ok.seq ?_
    refine Ok.region Try.tok ?_
    refine ⟨_, rfl, ⟨_, List.length_map _, fun _ => ?_⟩⟩
    refine Ok.wk (Wk.tab (L := [(1, (.b 1 0)), (5, (vi s2)), (46, (vb ((decide (s2 < (p_d.Loose.length : Int))))))]) (H' := [(1, .box [(.s (List.map c_api_Page p_d.Synced)), (.s (List.map c_api_Page p_d.Loose)), (vb p_d.Down)])]) ⟨Le.refl _, Le.refl _, Le.refl _, True.intro⟩ ⟨⟨_, rfl, .refl _⟩, True.intro⟩ rfl) ?_
    refine Ok.cond (d := 46) (b := (decide (s2 < (p_d.Loose.length : Int)))) rfl hB2 (fun hb hB2 => ?_) fun hb hB2 => ?_
    · refine Ok.skip ?_
      refine Ok.seq ?_
      refine Ok.block ?_
      refine Ok.seq ?_
      refine Ok.region Try.tok ?_
      obtain ⟨x5, hx5, hB2⟩ := bindS hB2
      obtain ⟨x6, hx6, hB2⟩ := bindS hB2
      refine ⟨_, rfl, ⟨_, idx_nat hx5, _, idx_row hx5, ⟨_, rfl, ?_⟩⟩⟩
      refine CallOk.call (w_ref04_Page hx6) (LeL.refl _) ?_
      refine Ok.wk (Wk.tab (L := [(1, (.b 1 0)), (5, (vi s2)), (6, (vb x6))]) (H' := [(1, .box [(.s (List.map c_api_Page p_d.Synced)), (.s (List.map c_api_Page p_d.Loose)), (vb p_d.Down)])]) ⟨Le.refl _, Le.refl _, Le.refl _, True.intro⟩ ⟨⟨_, rfl, .refl _⟩, True.intro⟩ rfl) ?_
      refine Ok.seq ?_
      refine Ok.region Try.tok ?_
      refine Ok.wk (Wk.tab (L := [(1, (.b 1 0)), (5, (vi s2)), (56, (vb ((!x6))))]) (H' := [(1, .box [(.s (List.map c_api_Page p_d.Synced)), (.s (List.map c_api_Page p_d.Loose)), (vb p_d.Down)])]) ⟨Le.refl _, Le.refl _, Le.refl _, True.intro⟩ ⟨⟨_, rfl, .refl _⟩, True.intro⟩ rfl) ?_
      refine Ok.cond (d := 56) (b := (!x6)) rfl hB2 (fun hb hB2 => ?_) fun hb hB2 => ?_
      · refine Ok.seq ?_
        refine Ok.region Try.tok ?_
        refine Ok.wk (Wk.tab (L := [(2, (vb false))]) (H' := []) ⟨Le.refl _, True.intro⟩ True.intro rfl) ?_
        refine Ok.ret ?_
        have hB2 := out_ret hB2 hy2
        cases hB2
        exact Fz.v
      · refine Ok.skip ?_
        refine Ok.region Try.tok ?_
        obtain ⟨hc3, hB2⟩ := chk_some hB2
        refine (Or.inl ⟨hc3, ?_⟩)
        exact ⟨_, (Option.some.inj hB2).symm, Wk.tab ⟨Le.refl _, Le.refl _, True.intro⟩ ⟨⟨_, rfl, .refl _⟩, True.intro⟩ rfl⟩
    · refine Ok.exit ?_
      have hB2 := out_ret hB2 hy2
      exact ⟨_, hB2, Wk.tab ⟨Le.refl _, True.intro⟩ ⟨⟨_, rfl, .refl _⟩, True.intro⟩ rfl⟩
  intro v3 h
  unfold ref04_Right_J2 at h
  obtain ⟨v4, hv4, h⟩ := bindS h
  refine Ok.seqw ⟨Cat.tab [(2, (vb v4))], []⟩ ?_ ?_
  · refine Ok.region Try.tok ?_
    refine ⟨_, rfl, ?_⟩
    obtain ⟨c3, hg3, hv4⟩ := bindS hv4
    refine Br.itf hg3 (fun hb hg3 => ?_) fun hb hg3 => ?_
    · cases hg3
      cases hv4
      exact Wk.tab ⟨Le.refl _, True.intro⟩ True.intro rfl
    · refine ⟨_, rfl, ⟨_, List.length_map _, fun _ => ?_⟩⟩
      cases hg3
      cases hv4
      exact Wk.tab ⟨Le.refl _, True.intro⟩ True.intro rfl
  refine Ok.ret ?_
  cases h
  exact Fz.v

theorem w_law25_Great {p_d : api_Disk} {r : Bool} (h : law25_Great p_d = some r) : Pure Try.prog 44 [(.a [(.s (List.map c_api_Page p_d.Synced)), (.s (List.map c_api_Page p_d.Loose)), (vb p_d.Down)])] (vb r) := by
  refine pure_of_ok (n := 48) (c := (Try.f44.body.getD .skip)) Try.tok Try.func44 (by kernel_rfl) rfl rfl (Nat.le_of_ble_eq_true rfl) ?_
  unfold law25_Great at h
  refine Ok.wk (Wk.tab (L := [(0, (.a [(.s (List.map c_api_Page p_d.Synced)), (.s (List.map c_api_Page p_d.Loose)), (vb p_d.Down)]))]) (H' := []) ⟨Le.refl _, True.intro⟩ True.intro rfl) ?_
  refine Ok.seq ?_
  refine Ok.region Try.tok ?_
  refine Ok.wk (Wk.tab (L := [(1, (.b 1 0))]) (H' := [(1, .box [(.s (List.map c_api_Page p_d.Synced)), (.s (List.map c_api_Page p_d.Loose)), (vb p_d.Down)])]) ⟨Le.refl _, True.intro⟩ ⟨⟨_, rfl, .refl _⟩, True.intro⟩ rfl) ?_
  refine Ok.seq ?_
  obtain ⟨v1, hv1, h⟩ := bindS h
  refine Ok.seqw ⟨Cat.tab [(1, (.b 1 0)), (14, (vb v1))], [(1, .box [(.s (List.map c_api_Page p_d.Synced)), (.s (List.map c_api_Page p_d.Loose)), (vb p_d.Down)])]⟩ ?_ ?_
  · refine Ok.region Try.tok ?_
    refine ⟨_, rfl, ⟨_, List.length_map _, fun _ => ?_⟩⟩
    obtain ⟨c1, hg1, hv1⟩ := bindS hv1
    refine Br.itf hg1 (fun hb hg1 => ?_) fun hb hg1 => ?_
    · cases hg1
      cases hv1
      exact Wk.tab ⟨Le.refl _, Le.refl _, True.intro⟩ ⟨⟨_, rfl, .refl _⟩, True.intro⟩ rfl
    · refine ⟨_, rfl, ⟨_, List.length_map _, fun _ => ?_⟩⟩
      cases hg1
      cases hv1
      exact Wk.tab ⟨Le.refl _, Le.refl _, True.intro⟩ ⟨⟨_, rfl, .refl _⟩, True.intro⟩ rfl
  refine Ok.cond (d := 14) (b := v1) rfl h (fun hb h => ?_) fun hb h => ?_
  · refine Ok.seq ?_
    refine Ok.region Try.tok ?_
    refine Ok.wk (Wk.tab (L := [(2, (vb true))]) (H' := []) ⟨Le.refl _, True.intro⟩ True.intro rfl) ?_
    refine Ok.ret ?_
    cases h
    exact Fz.v
  · refine Ok.skip ?_
    refine Ok.seqj (fun v2 => ⟨Cat.tab [(1, (.b 1 0))], [(1, .box [(.s (List.map c_api_Page p_d.Synced)), (.s (List.map c_api_Page p_d.Loose)), (vb p_d.Down)])]⟩) (fun v2 => law25_Great_J1 p_d v2 = some r) ?_ ?_
    · refine Ok.seq ?_
      refine Ok.region Try.tok ?_
      refine Ok.wk (Wk.tab (L := [(1, (.b 1 0)), (3, (vi (0)))]) (H' := [(1, .box [(.s (List.map c_api_Page p_d.Synced)), (.s (List.map c_api_Page p_d.Loose)), (vb p_d.Down)])]) ⟨Le.refl _, Le.refl _, True.intro⟩ ⟨⟨_, rfl, .refl _⟩, True.intro⟩ rfl) ?_
      refine Ok.block ?_
      refine Ok.loop (fun (s1 : Int) => ⟨Cat.tab [(1, (.b 1 0)), (3, (vi s1))], [(1, .box [(.s (List.map c_api_Page p_d.Synced)), (.s (List.map c_api_Page p_d.Loose)), (vb p_d.Down)])]⟩) (law25_Great_B1 p_d) (s0 := 0) h (Wk.tab ⟨Le.refl _, Le.refl _, True.intro⟩ ⟨⟨_, rfl, .refl _⟩, True.intro⟩ rfl) ?_
      intro s1 y1 hB1 hy1
      unfold law25_Great_B1 at hB1
      refine Ok.seq ?_
      refine Ok.seq ?_
      refine Ok.region Try.tok ?_
      refine ⟨_, rfl, ⟨_, List.length_map _, fun _ => ?_⟩⟩
      refine Ok.wk (Wk.tab (L := [(1, (.b 1 0)), (3, (vi s1)), (19, (vb ((decide (s1 < (p_d.Synced.length : Int))))))]) (H' := [(1, .box [(.s (List.map c_api_Page p_d.Synced)), (.s (List.map c_api_Page p_d.Loose)), (vb p_d.Down)])]) ⟨Le.refl _, Le.refl _, Le.refl _, True.intro⟩ ⟨⟨_, rfl, .refl _⟩, True.intro⟩ rfl) ?_
      refine Ok.cond (d := 19) (b := (decide (s1 < (p_d.Synced.length : Int)))) rfl hB1 (fun hb hB1 => ?_) fun hb hB1 => ?_
      · refine Ok.skip ?_
        refine Ok.seq ?_
        refine Ok.block ?_
        refine Ok.seq ?_
        refine Ok.region Try.tok ?_
        obtain ⟨x1, hx1, hB1⟩ := bindS hB1
        refine ⟨_, rfl, ⟨_, idx_nat hx1, _, idx_row hx1, ⟨_, rfl, ⟨_, List.length_map _, fun _ => ?_⟩⟩⟩⟩
        refine Ok.wk (Wk.tab (L := [(1, (.b 1 0)), (3, (vi s1)), (29, (vb ((decide ((x1.Data.length : Int) > 200)))))]) (H' := [(1, .box [(.s (List.map c_api_Page p_d.Synced)), (.s (List.map c_api_Page p_d.Loose)), (vb p_d.Down)])]) ⟨Le.refl _, Le.refl _, Le.refl _, True.intro⟩ ⟨⟨_, rfl, .refl _⟩, True.intro⟩ rfl) ?_
        refine Ok.cond (d := 29) (b := (decide ((x1.Data.length : Int) > 200))) rfl hB1 (fun hb hB1 => ?_) fun hb hB1 => ?_
        · refine Ok.seq ?_
          refine Ok.region Try.tok ?_
          refine Ok.wk (Wk.tab (L := [(2, (vb true))]) (H' := []) ⟨Le.refl _, True.intro⟩ True.intro rfl) ?_
          refine Ok.ret ?_
          have hB1 := out_ret hB1 hy1
          cases hB1
          exact Fz.v
        · refine Ok.skip ?_
          refine Ok.region Try.tok ?_
          obtain ⟨hc1, hB1⟩ := chk_some hB1
          refine (Or.inl ⟨hc1, ?_⟩)
          exact ⟨_, (Option.some.inj hB1).symm, Wk.tab ⟨Le.refl _, Le.refl _, True.intro⟩ ⟨⟨_, rfl, .refl _⟩, True.intro⟩ rfl⟩
      · refine Ok.exit ?_
        have hB1 := out_ret hB1 hy1
        exact ⟨_, hB1, Wk.tab ⟨Le.refl _, True.intro⟩ ⟨⟨_, rfl, .refl _⟩, True.intro⟩ rfl⟩
    intro v2 h
    unfold law25_Great_J1 at h
    refine Ok.seqj (fun v3 => ⟨Cat.tab [(1, (.b 1 0))], [(1, .box [(.s (List.map c_api_Page p_d.Synced)), (.s (List.map c_api_Page p_d.Loose)), (vb p_d.Down)])]⟩) (fun v3 => law25_Great_J2 p_d v3 = some r) ?_ ?_
    · refine Ok.seq ?_
      refine Ok.region Try.tok ?_
      refine Ok.wk (Wk.tab (L := [(1, (.b 1 0)), (4, (vi (0)))]) (H' := [(1, .box [(.s (List.map c_api_Page p_d.Synced)), (.s (List.map c_api_Page p_d.Loose)), (vb p_d.Down)])]) ⟨Le.refl _, Le.refl _, True.intro⟩ ⟨⟨_, rfl, .refl _⟩, True.intro⟩ rfl) ?_
      refine Ok.block ?_
      refine Ok.loop (fun (s2 : Int) => ⟨Cat.tab [(1, (.b 1 0)), (4, (vi s2))], [(1, .box [(.s (List.map c_api_Page p_d.Synced)), (.s (List.map c_api_Page p_d.Loose)), (vb p_d.Down)])]⟩) (law25_Great_B2 p_d) (s0 := 0) h (Wk.tab ⟨Le.refl _, Le.refl _, True.intro⟩ ⟨⟨_, rfl, .refl _⟩, True.intro⟩ rfl) ?_
      intro s2 y2 hB2 hy2
      unfold law25_Great_B2 at hB2
      refine Ok.seq ?_
      refine Ok.seq ?_
      refine Ok.region Try.tok ?_
      refine ⟨_, rfl, ⟨_, List.length_map _, fun _ => ?_⟩⟩
      refine Ok.wk (Wk.tab (L := [(1, (.b 1 0)), (4, (vi s2)), (34, (vb ((decide (s2 < (p_d.Loose.length : Int))))))]) (H' := [(1, .box [(.s (List.map c_api_Page p_d.Synced)), (.s (List.map c_api_Page p_d.Loose)), (vb p_d.Down)])]) ⟨Le.refl _, Le.refl _, Le.refl _, True.intro⟩ ⟨⟨_, rfl, .refl _⟩, True.intro⟩ rfl) ?_
      refine Ok.cond (d := 34) (b := (decide (s2 < (p_d.Loose.length : Int)))) rfl hB2 (fun hb hB2 => ?_) fun hb hB2 => ?_
      · refine Ok.skip ?_
        refine Ok.seq ?_
        refine Ok.block ?_
        refine Ok.seq ?_
        refine Ok.region Try.tok ?_
        obtain ⟨x2, hx2, hB2⟩ := bindS hB2
        refine ⟨_, rfl, ⟨_, idx_nat hx2, _, idx_row hx2, ⟨_, rfl, ⟨_, List.length_map _, fun _ => ?_⟩⟩⟩⟩
        refine Ok.wk (Wk.tab (L := [(1, (.b 1 0)), (4, (vi s2)), (44, (vb ((decide ((x2.Data.length : Int) > 200)))))]) (H' := [(1, .box [(.s (List.map c_api_Page p_d.Synced)), (.s (List.map c_api_Page p_d.Loose)), (vb p_d.Down)])]) ⟨Le.refl _, Le.refl _, Le.refl _, True.intro⟩ ⟨⟨_, rfl, .refl _⟩, True.intro⟩ rfl) ?_
        refine Ok.cond (d := 44) (b := (decide ((x2.Data.length : Int) > 200))) rfl hB2 (fun hb hB2 => ?_) fun hb hB2 => ?_
        · refine Ok.seq ?_
          refine Ok.region Try.tok ?_
          refine Ok.wk (Wk.tab (L := [(2, (vb true))]) (H' := []) ⟨Le.refl _, True.intro⟩ True.intro rfl) ?_
          refine Ok.ret ?_
          have hB2 := out_ret hB2 hy2
          cases hB2
          exact Fz.v
        · refine Ok.skip ?_
          refine Ok.region Try.tok ?_
          obtain ⟨hc2, hB2⟩ := chk_some hB2
          refine (Or.inl ⟨hc2, ?_⟩)
          exact ⟨_, (Option.some.inj hB2).symm, Wk.tab ⟨Le.refl _, Le.refl _, True.intro⟩ ⟨⟨_, rfl, .refl _⟩, True.intro⟩ rfl⟩
      · refine Ok.exit ?_
        have hB2 := out_ret hB2 hy2
        exact ⟨_, hB2, Wk.tab ⟨Le.refl _, True.intro⟩ ⟨⟨_, rfl, .refl _⟩, True.intro⟩ rfl⟩
    intro v3 h
    unfold law25_Great_J2 at h
    refine Ok.seq ?_
    refine Ok.region Try.tok ?_
    obtain ⟨x3, hx3, h⟩ := bindS h
    refine ⟨_, rfl, ?_⟩
    refine CallOk.call (w_ref04_Right hx3) (LeL.refl _) ?_
    refine Ok.wk (Wk.tab (L := [(2, (vb ((!x3))))]) (H' := []) ⟨Le.refl _, True.intro⟩ True.intro rfl) ?_
    refine Ok.ret ?_
    cases h
    exact Fz.v

theorem w_law27_Great {p_disks : List api_Disk} {p_l : List api_Chain} {r : Bool} (h : law27_Great p_disks p_l = some r) : Pure Try.prog 23 [(.s (List.map c_api_Disk p_disks)), (.s (List.map c_api_Chain p_l))] (vb r) := by
  refine pure_of_ok (n := 39) (c := (Try.f23.body.getD .skip)) Try.tok Try.func23 (by kernel_rfl) rfl rfl (Nat.le_of_ble_eq_true rfl) ?_
  unfold law27_Great at h
  refine Ok.wk (Wk.tab (L := [(0, (.s (List.map c_api_Disk p_disks))), (1, (.s (List.map c_api_Chain p_l)))]) (H' := []) ⟨Le.refl _, Le.refl _, True.intro⟩ True.intro rfl) ?_
  refine Ok.seq ?_
  refine Ok.region Try.tok ?_
  refine Ok.wk (Wk.tab (L := [(0, (.s (List.map c_api_Disk p_disks))), (1, (.s (List.map c_api_Chain p_l)))]) (H' := []) ⟨Le.refl _, Le.refl _, True.intro⟩ True.intro rfl) ?_
  refine Ok.seq ?_
  obtain ⟨v1, hv1, h⟩ := bindS h
  refine Ok.seqw ⟨Cat.tab [(0, (.s (List.map c_api_Disk p_disks))), (1, (.s (List.map c_api_Chain p_l))), (14, (vb v1))], []⟩ ?_ ?_
  · refine Ok.region Try.tok ?_
    refine ⟨_, List.length_map _, fun _ => ?_⟩
    obtain ⟨c1, hg1, hv1⟩ := bindS hv1
    refine Br.itf hg1 (fun hb hg1 => ?_) fun hb hg1 => ?_
    · cases hg1
      cases hv1
      exact Wk.tab ⟨Le.refl _, Le.refl _, Le.refl _, True.intro⟩ True.intro rfl
    · refine ⟨_, List.length_map _, fun _ => ?_⟩
      cases hg1
      cases hv1
      exact Wk.tab ⟨Le.refl _, Le.refl _, Le.refl _, True.intro⟩ True.intro rfl
  refine Ok.cond (d := 14) (b := v1) rfl h (fun hb h => ?_) fun hb h => ?_
  · refine Ok.seq ?_
    refine Ok.region Try.tok ?_
    refine Ok.wk (Wk.tab (L := [(4, (vb true))]) (H' := []) ⟨Le.refl _, True.intro⟩ True.intro rfl) ?_
    refine Ok.ret ?_
    cases h
    exact Fz.v
  · refine Ok.skip ?_
    refine Ok.seqj (fun v2 => ⟨Cat.tab [(1, (.s (List.map c_api_Chain p_l)))], []⟩) (fun v2 => law27_Great_J1 p_l v2 = some r) ?_ ?_
    · refine Ok.seq ?_
      refine Ok.region Try.tok ?_
      refine Ok.wk (Wk.tab (L := [(0, (.s (List.map c_api_Disk p_disks))), (1, (.s (List.map c_api_Chain p_l))), (5, (vi (0)))]) (H' := []) ⟨Le.refl _, Le.refl _, Le.refl _, True.intro⟩ True.intro rfl) ?_
      refine Ok.block ?_
      refine Ok.loop (fun (s1 : Int) => ⟨Cat.tab [(0, (.s (List.map c_api_Disk p_disks))), (1, (.s (List.map c_api_Chain p_l))), (5, (vi s1))], []⟩) (law27_Great_B1 p_disks p_l) (s0 := 0) h (Wk.tab ⟨Le.refl _, Le.refl _, Le.refl _, True.intro⟩ True.intro rfl) ?_
      intro s1 y1 hB1 hy1
      unfold law27_Great_B1 at hB1
      refine Ok.seq ?_
      refine Ok.seq ?_
      refine Ok.region Try.tok ?_
      refine ⟨_, List.length_map _, fun _ => ?_⟩
      refine Ok.wk (Wk.tab (L := [(0, (.s (List.map c_api_Disk p_disks))), (1, (.s (List.map c_api_Chain p_l))), (5, (vi s1)), (18, (vb ((decide (s1 < (p_disks.length : Int))))))]) (H' := []) ⟨Le.refl _, Le.refl _, Le.refl _, Le.refl _, True.intro⟩ True.intro rfl) ?_
      refine Ok.cond (d := 18) (b := (decide (s1 < (p_disks.length : Int)))) rfl hB1 (fun hb hB1 => ?_) fun hb hB1 => ?_
      · refine Ok.skip ?_
        refine Ok.seq ?_
        refine Ok.block ?_
        refine Ok.seq ?_
        refine Ok.region Try.tok ?_
        obtain ⟨x1, hx1, hB1⟩ := bindS hB1
        obtain ⟨x2, hx2, hB1⟩ := bindS hB1
        refine ⟨_, idx_nat hx1, _, idx_row hx1, ⟨_, rfl, ?_⟩⟩
        refine CallOk.call (w_law25_Great hx2) (LeL.refl _) ?_
        refine Ok.wk (Wk.tab (L := [(0, (.s (List.map c_api_Disk p_disks))), (1, (.s (List.map c_api_Chain p_l))), (5, (vi s1)), (25, (vb x2))]) (H' := []) ⟨Le.refl _, Le.refl _, Le.refl _, Le.refl _, True.intro⟩ True.intro rfl) ?_
        refine Ok.cond (d := 25) (b := x2) rfl hB1 (fun hb hB1 => ?_) fun hb hB1 => ?_
        · refine Ok.seq ?_
          refine Ok.region Try.tok ?_
          refine Ok.wk (Wk.tab (L := [(4, (vb true))]) (H' := []) ⟨Le.refl _, True.intro⟩ True.intro rfl) ?_
          refine Ok.ret ?_
          have hB1 := out_ret hB1 hy1
          cases hB1
          exact Fz.v
        · refine Ok.skip ?_
          refine Ok.region Try.tok ?_
          obtain ⟨hc1, hB1⟩ := chk_some hB1
          refine (Or.inl ⟨hc1, ?_⟩)
          exact ⟨_, (Option.some.inj hB1).symm, Wk.tab ⟨Le.refl _, Le.refl _, Le.refl _, True.intro⟩ True.intro rfl⟩
      · refine Ok.exit ?_
        have hB1 := out_ret hB1 hy1
        exact ⟨_, hB1, Wk.tab ⟨Le.refl _, True.intro⟩ True.intro rfl⟩
    intro v2 h
    unfold law27_Great_J1 at h
    refine Ok.seqj (fun v3 => ⟨Cat.tab [], []⟩) (fun v3 => law27_Great_J2 v3 = some r) ?_ ?_
    · refine Ok.seq ?_
      refine Ok.region Try.tok ?_
      refine Ok.wk (Wk.tab (L := [(1, (.s (List.map c_api_Chain p_l))), (6, (vi (0)))]) (H' := []) ⟨Le.refl _, Le.refl _, True.intro⟩ True.intro rfl) ?_
      refine Ok.block ?_
      refine Ok.loop (fun (s2 : Int) => ⟨Cat.tab [(1, (.s (List.map c_api_Chain p_l))), (6, (vi s2))], []⟩) (law27_Great_B2 p_l) (s0 := 0) h (Wk.tab ⟨Le.refl _, Le.refl _, True.intro⟩ True.intro rfl) ?_
      intro s2 y2 hB2 hy2
      unfold law27_Great_B2 at hB2
      refine Ok.seq ?_
      refine Ok.seq ?_
      refine Ok.region Try.tok ?_
      refine ⟨_, List.length_map _, fun _ => ?_⟩
      refine Ok.wk (Wk.tab (L := [(1, (.s (List.map c_api_Chain p_l))), (6, (vi s2)), (29, (vb ((decide (s2 < (p_l.length : Int))))))]) (H' := []) ⟨Le.refl _, Le.refl _, Le.refl _, True.intro⟩ True.intro rfl) ?_
      refine Ok.cond (d := 29) (b := (decide (s2 < (p_l.length : Int)))) rfl hB2 (fun hb hB2 => ?_) fun hb hB2 => ?_
      · refine Ok.skip ?_
        refine Ok.seq ?_
        refine Ok.block ?_
        refine Ok.seq ?_
        refine Ok.region Try.tok ?_
        obtain ⟨x3, hx3, hB2⟩ := bindS hB2
        refine ⟨_, idx_nat hx3, _, idx_row hx3, ⟨_, rfl, ⟨_, List.length_map _, fun _ => ?_⟩⟩⟩
        refine Ok.wk (Wk.tab (L := [(1, (.s (List.map c_api_Chain p_l))), (6, (vi s2)), (38, (vb ((decide ((x3.Servers.length : Int) > 12)))))]) (H' := []) ⟨Le.refl _, Le.refl _, Le.refl _, True.intro⟩ True.intro rfl) ?_
        refine Ok.cond (d := 38) (b := (decide ((x3.Servers.length : Int) > 12))) rfl hB2 (fun hb hB2 => ?_) fun hb hB2 => ?_
        · refine Ok.seq ?_
          refine Ok.region Try.tok ?_
          refine Ok.wk (Wk.tab (L := [(4, (vb true))]) (H' := []) ⟨Le.refl _, True.intro⟩ True.intro rfl) ?_
          refine Ok.ret ?_
          have hB2 := out_ret hB2 hy2
          cases hB2
          exact Fz.v
        · refine Ok.skip ?_
          refine Ok.region Try.tok ?_
          obtain ⟨hc2, hB2⟩ := chk_some hB2
          refine (Or.inl ⟨hc2, ?_⟩)
          exact ⟨_, (Option.some.inj hB2).symm, Wk.tab ⟨Le.refl _, Le.refl _, True.intro⟩ True.intro rfl⟩
      · refine Ok.exit ?_
        have hB2 := out_ret hB2 hy2
        exact ⟨_, hB2, Wk.tab True.intro True.intro rfl⟩
    intro v3 h
    unfold law27_Great_J2 at h
    refine Ok.seq ?_
    refine Ok.region Try.tok ?_
    refine Ok.wk (Wk.tab (L := [(4, (vb false))]) (H' := []) ⟨Le.refl _, True.intro⟩ True.intro rfl) ?_
    refine Ok.ret ?_
    cases h
    exact Fz.v

theorem w_law29_Great {p_x : law29_Set} {r : Bool} (h : law29_Great p_x = some r) : Pure Try.prog 8 [(.a [(.s (List.map c_api_Named p_x.Named)), (.s (List.map c_api_Room p_x.Rooms)), (.s (List.map c_api_Lease p_x.Leases)), (.s (List.map c_api_Disk p_x.Disks))])] (vb r) := by
  refine pure_of_ok (n := 24) (c := (Try.f8.body.getD .skip)) Try.tok Try.func8 (by kernel_rfl) rfl rfl (Nat.le_of_ble_eq_true rfl) ?_
  unfold law29_Great at h
  refine Ok.wk (Wk.tab (L := [(0, (.a [(.s (List.map c_api_Named p_x.Named)), (.s (List.map c_api_Room p_x.Rooms)), (.s (List.map c_api_Lease p_x.Leases)), (.s (List.map c_api_Disk p_x.Disks))]))]) (H' := []) ⟨Le.refl _, True.intro⟩ True.intro rfl) ?_
  refine Ok.seq ?_
  refine Ok.region Try.tok ?_
  refine Ok.wk (Wk.tab (L := [(1, (.b 1 0))]) (H' := [(1, .box [(.s (List.map c_api_Named p_x.Named)), (.s (List.map c_api_Room p_x.Rooms)), (.s (List.map c_api_Lease p_x.Leases)), (.s (List.map c_api_Disk p_x.Disks))])]) ⟨Le.refl _, True.intro⟩ ⟨⟨_, rfl, .refl _⟩, True.intro⟩ rfl) ?_
  obtain ⟨v1, hv1, h⟩ := bindS h
  refine Ok.seqw ⟨Cat.tab [(2, (vb v1))], []⟩ ?_ ?_
  · refine Ok.region Try.tok ?_
    refine ⟨_, rfl, ⟨_, List.length_map _, fun _ => ?_⟩⟩
    obtain ⟨c1, hg1, hv1⟩ := bindS hv1
    refine Br.itf hg1 (fun hb hg1 => ?_) fun hb hg1 => ?_
    · cases hg1
      obtain ⟨c2, hg2, hv1⟩ := bindS hv1
      replace hg2 := iteT hg2
      cases hg2
      obtain ⟨c3, hg3, hv1⟩ := bindS hv1
      replace hg3 := iteT hg3
      cases hg3
      cases hv1
      exact Wk.tab ⟨Le.refl _, True.intro⟩ True.intro rfl
    · refine ⟨_, rfl, ⟨_, List.length_map _, fun _ => ?_⟩⟩
      cases hg1
      obtain ⟨c2, hg4, hv1⟩ := bindS hv1
      refine Br.itf hg4 (fun hb hg4 => ?_) fun hb hg4 => ?_
      · cases hg4
        obtain ⟨c3, hg5, hv1⟩ := bindS hv1
        replace hg5 := iteT hg5
        cases hg5
        cases hv1
        exact Wk.tab ⟨Le.refl _, True.intro⟩ True.intro rfl
      · refine ⟨_, rfl, ⟨_, List.length_map _, fun _ => ?_⟩⟩
        cases hg4
        obtain ⟨c3, hg6, hv1⟩ := bindS hv1
        refine Br.itf hg6 (fun hb hg6 => ?_) fun hb hg6 => ?_
        · cases hg6
          cases hv1
          exact Wk.tab ⟨Le.refl _, True.intro⟩ True.intro rfl
        · obtain ⟨x1, hx1, hg6⟩ := bindS hg6
          refine ⟨_, rfl, ?_⟩
          refine CallOk.call (w_law27_Great hx1) (.cons (Le.refl _) (.cons (Le.nil) (.nil))) ?_
          cases hg6
          cases hv1
          exact Wk.tab ⟨Le.refl _, True.intro⟩ True.intro rfl
  refine Ok.ret ?_
  cases h
  exact Fz.v

theorem w_ref02_Bytes {p_a : List UInt8} {p_b : List UInt8} {r : Bool} (h : ref02_Bytes p_a p_b = some r) : Pure Try.prog 73 [(.s (List.map cU8 p_a)), (.s (List.map cU8 p_b))] (vb r) := by
  refine pure_of_ok (n := 26) (c := (Try.f73.body.getD .skip)) Try.tok Try.func73 (by kernel_rfl) rfl rfl (Nat.le_of_ble_eq_true rfl) ?_
  unfold ref02_Bytes at h
  refine Ok.wk (Wk.tab (L := [(0, (.s (List.map cU8 p_a))), (1, (.s (List.map cU8 p_b)))]) (H' := []) ⟨Le.refl _, Le.refl _, True.intro⟩ True.intro rfl) ?_
  refine Ok.seq ?_
  refine Ok.region Try.tok ?_
  refine Ok.wk (Wk.tab (L := [(0, (.s (List.map cU8 p_a))), (1, (.s (List.map cU8 p_b)))]) (H' := []) ⟨Le.refl _, Le.refl _, True.intro⟩ True.intro rfl) ?_
  refine Ok.seq ?_
  refine Ok.seq ?_
  refine Ok.region Try.tok ?_
  refine ⟨_, List.length_map _, fun _ => ⟨_, List.length_map _, fun _ => ?_⟩⟩
  refine Ok.wk (Wk.tab (L := [(0, (.s (List.map cU8 p_a))), (1, (.s (List.map cU8 p_b))), (10, (vb (((p_a.length : Int) != (p_b.length : Int)))))]) (H' := []) ⟨Le.refl _, Le.refl _, Le.refl _, True.intro⟩ True.intro rfl) ?_
  refine Ok.cond (d := 10) (b := ((p_a.length : Int) != (p_b.length : Int))) rfl h (fun hb h => ?_) fun hb h => ?_
  · refine Ok.seq ?_
    refine Ok.region Try.tok ?_
    refine Ok.wk (Wk.tab (L := [(4, (vb false))]) (H' := []) ⟨Le.refl _, True.intro⟩ True.intro rfl) ?_
    refine Ok.ret ?_
    cases h
    exact Fz.v
  · refine Ok.skip ?_
    refine Ok.seqj (fun v1 => ⟨Cat.tab [], []⟩) (fun v1 => ref02_Bytes_J1 v1 = some r) ?_ ?_
    · refine Ok.seq ?_
      refine Ok.region Try.tok ?_
      refine Ok.wk (Wk.tab (L := [(0, (.s (List.map cU8 p_a))), (1, (.s (List.map cU8 p_b))), (5, (vi (0)))]) (H' := []) ⟨Le.refl _, Le.refl _, Le.refl _, True.intro⟩ True.intro rfl) ?_
      refine Ok.block ?_
      refine Ok.loop (fun (s1 : Int) => ⟨Cat.tab [(0, (.s (List.map cU8 p_a))), (1, (.s (List.map cU8 p_b))), (5, (vi s1))], []⟩) (ref02_Bytes_B1 p_a p_b) (s0 := 0) h (Wk.tab ⟨Le.refl _, Le.refl _, Le.refl _, True.intro⟩ True.intro rfl) ?_
      intro s1 y1 hB1 hy1
      unfold ref02_Bytes_B1 at hB1
      refine Ok.seq ?_
      refine Ok.seq ?_
      refine Ok.region Try.tok ?_
      refine ⟨_, List.length_map _, fun _ => ?_⟩
      refine Ok.wk (Wk.tab (L := [(0, (.s (List.map cU8 p_a))), (1, (.s (List.map cU8 p_b))), (5, (vi s1)), (14, (vb ((decide (s1 < (p_a.length : Int))))))]) (H' := []) ⟨Le.refl _, Le.refl _, Le.refl _, Le.refl _, True.intro⟩ True.intro rfl) ?_
      refine Ok.cond (d := 14) (b := (decide (s1 < (p_a.length : Int)))) rfl hB1 (fun hb hB1 => ?_) fun hb hB1 => ?_
      · refine Ok.skip ?_
        refine Ok.seq ?_
        refine Ok.block ?_
        refine Ok.seq ?_
        refine Ok.draw (m := 9) (MD := ⟨[]⟩) (CH := ⟨[]⟩) Try.tok Try.mixed (by kernel_rfl) ?_
        obtain ⟨x1, hx1, hB1⟩ := bindS hB1
        obtain ⟨x2, hx2, hB1⟩ := bindS hB1
        refine ⟨_, rfl, ⟨_, rfl, ⟨_, ⟨_, idx_nat hx1, _, idx_row hx1, rfl⟩, ⟨_, ⟨_, rfl, rfl⟩, ⟨_, rfl, ⟨_, rfl, ⟨_, ⟨_, idx_nat hx2, _, idx_row hx2, rfl⟩, ⟨_, ⟨_, rfl, rfl⟩, ⟨_, rfl, ⟨True.intro, ?_⟩⟩⟩⟩⟩⟩⟩⟩⟩⟩
        refine Ok.wk (Wk.tab (L := [(0, (.s (List.map cU8 p_a))), (1, (.s (List.map cU8 p_b))), (5, (vi s1)), (25, (vb (((x1.toNat : Int) != (x2.toNat : Int)))))]) (H' := []) ⟨Le.refl _, Le.refl _, Le.refl _, Le.refl _, True.intro⟩ True.intro rfl) ?_
        refine Ok.cond (d := 25) (b := ((x1.toNat : Int) != (x2.toNat : Int))) rfl hB1 (fun hb hB1 => ?_) fun hb hB1 => ?_
        · refine Ok.seq ?_
          refine Ok.region Try.tok ?_
          refine Ok.wk (Wk.tab (L := [(4, (vb false))]) (H' := []) ⟨Le.refl _, True.intro⟩ True.intro rfl) ?_
          refine Ok.ret ?_
          have hB1 := out_ret hB1 hy1
          cases hB1
          exact Fz.v
        · refine Ok.skip ?_
          refine Ok.region Try.tok ?_
          obtain ⟨hc1, hB1⟩ := chk_some hB1
          refine (Or.inl ⟨hc1, ?_⟩)
          exact ⟨_, (Option.some.inj hB1).symm, Wk.tab ⟨Le.refl _, Le.refl _, Le.refl _, True.intro⟩ True.intro rfl⟩
      · refine Ok.exit ?_
        have hB1 := out_ret hB1 hy1
        exact ⟨_, hB1, Wk.tab True.intro True.intro rfl⟩
    intro v1 h
    unfold ref02_Bytes_J1 at h
    refine Ok.seq ?_
    refine Ok.region Try.tok ?_
    refine Ok.wk (Wk.tab (L := [(4, (vb true))]) (H' := []) ⟨Le.refl _, True.intro⟩ True.intro rfl) ?_
    refine Ok.ret ?_
    cases h
    exact Fz.v

theorem w_ref25_pages {p_a : List api_Page} {p_b : List api_Page} {r : Bool} (h : ref25_pages p_a p_b = some r) : Pure Try.prog 55 [(.s (List.map c_api_Page p_a)), (.s (List.map c_api_Page p_b))] (vb r) := by
  refine pure_of_ok (n := 42) (c := (Try.f55.body.getD .skip)) Try.tok Try.func55 (by kernel_rfl) rfl rfl (Nat.le_of_ble_eq_true rfl) ?_
  unfold ref25_pages at h
  refine Ok.wk (Wk.tab (L := [(0, (.s (List.map c_api_Page p_a))), (1, (.s (List.map c_api_Page p_b)))]) (H' := []) ⟨Le.refl _, Le.refl _, True.intro⟩ True.intro rfl) ?_
  refine Ok.seq ?_
  refine Ok.region Try.tok ?_
  refine Ok.wk (Wk.tab (L := [(0, (.s (List.map c_api_Page p_a))), (1, (.s (List.map c_api_Page p_b)))]) (H' := []) ⟨Le.refl _, Le.refl _, True.intro⟩ True.intro rfl) ?_
  refine Ok.seq ?_
  refine Ok.seq ?_
  refine Ok.region Try.tok ?_
  refine ⟨_, List.length_map _, fun _ => ⟨_, List.length_map _, fun _ => ?_⟩⟩
  refine Ok.wk (Wk.tab (L := [(0, (.s (List.map c_api_Page p_a))), (1, (.s (List.map c_api_Page p_b))), (10, (vb (((p_a.length : Int) != (p_b.length : Int)))))]) (H' := []) ⟨Le.refl _, Le.refl _, Le.refl _, True.intro⟩ True.intro rfl) ?_
  refine Ok.cond (d := 10) (b := ((p_a.length : Int) != (p_b.length : Int))) rfl h (fun hb h => ?_) fun hb h => ?_
  · refine Ok.seq ?_
    refine Ok.region Try.tok ?_
    refine Ok.wk (Wk.tab (L := [(4, (vb false))]) (H' := []) ⟨Le.refl _, True.intro⟩ True.intro rfl) ?_
    refine Ok.ret ?_
    cases h
    exact Fz.v
  · refine Ok.skip ?_
    refine Ok.seqj (fun v1 => ⟨Cat.tab [], []⟩) (fun v1 => ref25_pages_J1 v1 = some r) ?_ ?_
    · refine Ok.seq ?_
      refine Ok.region Try.tok ?_
      refine Ok.wk (Wk.tab (L := [(0, (.s (List.map c_api_Page p_a))), (1, (.s (List.map c_api_Page p_b))), (5, (vi (0)))]) (H' := []) ⟨Le.refl _, Le.refl _, Le.refl _, True.intro⟩ True.intro rfl) ?_
      refine Ok.block ?_
      refine Ok.loop (fun (s1 : Int) => ⟨Cat.tab [(0, (.s (List.map c_api_Page p_a))), (1, (.s (List.map c_api_Page p_b))), (5, (vi s1))], []⟩) (ref25_pages_B1 p_a p_b) (s0 := 0) h (Wk.tab ⟨Le.refl _, Le.refl _, Le.refl _, True.intro⟩ True.intro rfl) ?_
      intro s1 y1 hB1 hy1
      unfold ref25_pages_B1 at hB1
      refine Ok.seq ?_
      refine Ok.seq ?_
      refine Ok.region Try.tok ?_
      refine ⟨_, List.length_map _, fun _ => ?_⟩
      refine Ok.wk (Wk.tab (L := [(0, (.s (List.map c_api_Page p_a))), (1, (.s (List.map c_api_Page p_b))), (5, (vi s1)), (14, (vb ((decide (s1 < (p_a.length : Int))))))]) (H' := []) ⟨Le.refl _, Le.refl _, Le.refl _, Le.refl _, True.intro⟩ True.intro rfl) ?_
      refine Ok.cond (d := 14) (b := (decide (s1 < (p_a.length : Int)))) rfl hB1 (fun hb hB1 => ?_) fun hb hB1 => ?_
      · refine Ok.skip ?_
        refine Ok.seq ?_
        refine Ok.block ?_
        obtain ⟨v2, hv2, hB1⟩ := bindS hB1
        refine Ok.seqw ⟨Cat.tab [(0, (.s (List.map c_api_Page p_a))), (1, (.s (List.map c_api_Page p_b))), (5, (vi s1)), (41, (vb v2))], []⟩ ?_ ?_
        · refine Ok.draw (m := 25) (MD := ⟨[]⟩) (CH := ⟨[]⟩) Try.tok Try.mixed (by kernel_rfl) ?_
          obtain ⟨x1, hx1, hv2⟩ := bindS hv2
          obtain ⟨x2, hx2, hv2⟩ := bindS hv2
          refine ⟨_, rfl, ⟨_, rfl, ⟨_, ⟨_, idx_nat hx1, _, idx_row hx1, rfl⟩, ⟨_, rfl, ⟨_, ⟨_, rfl, rfl⟩, ⟨_, rfl, ⟨_, rfl, ⟨_, ⟨_, idx_nat hx2, _, idx_row hx2, rfl⟩, ⟨_, rfl, ⟨_, ⟨_, rfl, rfl⟩, ⟨_, rfl, ⟨_, rfl, ?_⟩⟩⟩⟩⟩⟩⟩⟩⟩⟩⟩⟩
          obtain ⟨c1, hg1, hv2⟩ := bindS hv2
          refine Br.itf hg1 (fun hb hg1 => ?_) fun hb hg1 => ?_
          · cases hg1
            refine ⟨_, rfl, ?_⟩
            refine ⟨True.intro, ?_⟩
            cases hv2
            exact Wk.tab ⟨Le.refl _, Le.refl _, Le.refl _, Le.refl _, True.intro⟩ True.intro rfl
          · obtain ⟨x3, hx3, hg1⟩ := bindS hg1
            obtain ⟨x4, hx4, hg1⟩ := bindS hg1
            obtain ⟨x5, hx5, hg1⟩ := bindS hg1
            refine ⟨_, rfl, ⟨_, rfl, ⟨_, ⟨_, idx_nat hx3, _, idx_row hx3, rfl⟩, ⟨_, rfl, ⟨_, ⟨_, rfl, rfl⟩, ⟨_, rfl, ⟨_, rfl, ⟨_, ⟨_, idx_nat hx4, _, idx_row hx4, rfl⟩, ⟨_, rfl, ⟨_, ⟨_, rfl, rfl⟩, ⟨_, ⟨_, .of_pure (w_ref02_Bytes hx5) (LeL.refl _), rfl⟩, ⟨_, rfl, ?_⟩⟩⟩⟩⟩⟩⟩⟩⟩⟩⟩⟩
            cases hg1
            refine ⟨_, rfl, ?_⟩
            refine ⟨True.intro, ?_⟩
            cases hv2
            exact Wk.tab ⟨Le.refl _, Le.refl _, Le.refl _, Le.refl _, True.intro⟩ True.intro rfl
        refine Ok.cond (d := 41) (b := v2) rfl hB1 (fun hb hB1 => ?_) fun hb hB1 => ?_
        · refine Ok.seq ?_
          refine Ok.region Try.tok ?_
          refine Ok.wk (Wk.tab (L := [(4, (vb false))]) (H' := []) ⟨Le.refl _, True.intro⟩ True.intro rfl) ?_
          refine Ok.ret ?_
          have hB1 := out_ret hB1 hy1
          cases hB1
          exact Fz.v
        · refine Ok.skip ?_
          refine Ok.region Try.tok ?_
          obtain ⟨hc1, hB1⟩ := chk_some hB1
          refine (Or.inl ⟨hc1, ?_⟩)
          exact ⟨_, (Option.some.inj hB1).symm, Wk.tab ⟨Le.refl _, Le.refl _, Le.refl _, True.intro⟩ True.intro rfl⟩
      · refine Ok.exit ?_
        have hB1 := out_ret hB1 hy1
        exact ⟨_, hB1, Wk.tab True.intro True.intro rfl⟩
    intro v1 h
    unfold ref25_pages_J1 at h
    refine Ok.seq ?_
    refine Ok.region Try.tok ?_
    refine Ok.wk (Wk.tab (L := [(4, (vb true))]) (H' := []) ⟨Le.refl _, True.intro⟩ True.intro rfl) ?_
    refine Ok.ret ?_
    cases h
    exact Fz.v

theorem w_ref25_SameDisk {p_a : api_Disk} {p_b : api_Disk} {r : Bool} (h : ref25_SameDisk p_a p_b = some r) : Pure Try.prog 33 [(.a [(.s (List.map c_api_Page p_a.Synced)), (.s (List.map c_api_Page p_a.Loose)), (vb p_a.Down)]), (.a [(.s (List.map c_api_Page p_b.Synced)), (.s (List.map c_api_Page p_b.Loose)), (vb p_b.Down)])] (vb r) := by
  refine pure_of_ok (n := 24) (c := (Try.f33.body.getD .skip)) Try.tok Try.func33 (by kernel_rfl) rfl rfl (Nat.le_of_ble_eq_true rfl) ?_
  unfold ref25_SameDisk at h
  refine Ok.wk (Wk.tab (L := [(0, (.a [(.s (List.map c_api_Page p_a.Synced)), (.s (List.map c_api_Page p_a.Loose)), (vb p_a.Down)])), (1, (.a [(.s (List.map c_api_Page p_b.Synced)), (.s (List.map c_api_Page p_b.Loose)), (vb p_b.Down)]))]) (H' := []) ⟨Le.refl _, Le.refl _, True.intro⟩ True.intro rfl) ?_
  refine Ok.seq ?_
  refine Ok.region Try.tok ?_
  refine Ok.wk (Wk.tab (L := [(2, (.b 2 0)), (3, (.b 3 0))]) (H' := [(2, .box [(.s (List.map c_api_Page p_a.Synced)), (.s (List.map c_api_Page p_a.Loose)), (vb p_a.Down)]), (3, .box [(.s (List.map c_api_Page p_b.Synced)), (.s (List.map c_api_Page p_b.Loose)), (vb p_b.Down)])]) ⟨Le.refl _, Le.refl _, True.intro⟩ ⟨⟨_, rfl, .refl _⟩, ⟨_, rfl, .refl _⟩, True.intro⟩ rfl) ?_
  obtain ⟨v1, hv1, h⟩ := bindS h
  refine Ok.seqw ⟨Cat.tab [(4, (vb v1))], []⟩ ?_ ?_
  · refine Ok.region Try.tok ?_
    obtain ⟨x1, hx1, hv1⟩ := bindS hv1
    refine ⟨_, rfl, ⟨_, rfl, ?_⟩⟩
    refine CallOk.call (w_ref25_pages hx1) (LeL.refl _) ?_
    obtain ⟨c1, hg1, hv1⟩ := bindS hv1
    refine Br.ite hg1 (fun hb hg1 => ?_) fun hb hg1 => ?_
    · obtain ⟨x2, hx2, hg1⟩ := bindS hg1
      refine ⟨_, rfl, ⟨_, rfl, ?_⟩⟩
      refine CallOk.call (w_ref25_pages hx2) (LeL.refl _) ?_
      cases hg1
      obtain ⟨c2, hg2, hv1⟩ := bindS hv1
      refine Br.ite hg2 (fun hb hg2 => ?_) fun hb hg2 => ?_
      · refine ⟨_, rfl, ⟨_, rfl, ?_⟩⟩
        cases hg2
        cases hv1
        exact Wk.tab ⟨Le.refl _, True.intro⟩ True.intro rfl
      · cases hg2
        cases hv1
        exact Wk.tab ⟨Le.refl _, True.intro⟩ True.intro rfl
    · cases hg1
      obtain ⟨c2, hg3, hv1⟩ := bindS hv1
      replace hg3 := iteF hg3
      cases hg3
      cases hv1
      exact Wk.tab ⟨Le.refl _, True.intro⟩ True.intro rfl
  refine Ok.ret ?_
  cases h
  exact Fz.v

theorem w_ref27_SameDisks {p_a : List api_Disk} {p_b : List api_Disk} {r : Bool} (h : ref27_SameDisks p_a p_b = some r) : Pure Try.prog 15 [(.s (List.map c_api_Disk p_a)), (.s (List.map c_api_Disk p_b))] (vb r) := by
  refine pure_of_ok (n := 27) (c := (Try.f15.body.getD .skip)) Try.tok Try.func15 (by kernel_rfl) rfl rfl (Nat.le_of_ble_eq_true rfl) ?_
  unfold ref27_SameDisks at h
  refine Ok.wk (Wk.tab (L := [(0, (.s (List.map c_api_Disk p_a))), (1, (.s (List.map c_api_Disk p_b)))]) (H' := []) ⟨Le.refl _, Le.refl _, True.intro⟩ True.intro rfl) ?_
  refine Ok.seq ?_
  refine Ok.region Try.tok ?_
  refine Ok.wk (Wk.tab (L := [(0, (.s (List.map c_api_Disk p_a))), (1, (.s (List.map c_api_Disk p_b)))]) (H' := []) ⟨Le.refl _, Le.refl _, True.intro⟩ True.intro rfl) ?_
  refine Ok.seq ?_
  refine Ok.seq ?_
  refine Ok.region Try.tok ?_
  refine ⟨_, List.length_map _, fun _ => ⟨_, List.length_map _, fun _ => ?_⟩⟩
  refine Ok.wk (Wk.tab (L := [(0, (.s (List.map c_api_Disk p_a))), (1, (.s (List.map c_api_Disk p_b))), (10, (vb (((p_a.length : Int) != (p_b.length : Int)))))]) (H' := []) ⟨Le.refl _, Le.refl _, Le.refl _, True.intro⟩ True.intro rfl) ?_
  refine Ok.cond (d := 10) (b := ((p_a.length : Int) != (p_b.length : Int))) rfl h (fun hb h => ?_) fun hb h => ?_
  · refine Ok.seq ?_
    refine Ok.region Try.tok ?_
    refine Ok.wk (Wk.tab (L := [(4, (vb false))]) (H' := []) ⟨Le.refl _, True.intro⟩ True.intro rfl) ?_
    refine Ok.ret ?_
    cases h
    exact Fz.v
  · refine Ok.skip ?_
    refine Ok.seqj (fun v1 => ⟨Cat.tab [], []⟩) (fun v1 => ref27_SameDisks_J1 v1 = some r) ?_ ?_
    · refine Ok.seq ?_
      refine Ok.region Try.tok ?_
      refine Ok.wk (Wk.tab (L := [(0, (.s (List.map c_api_Disk p_a))), (1, (.s (List.map c_api_Disk p_b))), (5, (vi (0)))]) (H' := []) ⟨Le.refl _, Le.refl _, Le.refl _, True.intro⟩ True.intro rfl) ?_
      refine Ok.block ?_
      refine Ok.loop (fun (s1 : Int) => ⟨Cat.tab [(0, (.s (List.map c_api_Disk p_a))), (1, (.s (List.map c_api_Disk p_b))), (5, (vi s1))], []⟩) (ref27_SameDisks_B1 p_a p_b) (s0 := 0) h (Wk.tab ⟨Le.refl _, Le.refl _, Le.refl _, True.intro⟩ True.intro rfl) ?_
      intro s1 y1 hB1 hy1
      unfold ref27_SameDisks_B1 at hB1
      refine Ok.seq ?_
      refine Ok.seq ?_
      refine Ok.region Try.tok ?_
      refine ⟨_, List.length_map _, fun _ => ?_⟩
      refine Ok.wk (Wk.tab (L := [(0, (.s (List.map c_api_Disk p_a))), (1, (.s (List.map c_api_Disk p_b))), (5, (vi s1)), (14, (vb ((decide (s1 < (p_a.length : Int))))))]) (H' := []) ⟨Le.refl _, Le.refl _, Le.refl _, Le.refl _, True.intro⟩ True.intro rfl) ?_
      refine Ok.cond (d := 14) (b := (decide (s1 < (p_a.length : Int)))) rfl hB1 (fun hb hB1 => ?_) fun hb hB1 => ?_
      · refine Ok.skip ?_
        refine Ok.seq ?_
        refine Ok.block ?_
        refine Ok.seq ?_
        refine Ok.draw (m := 10) (MD := ⟨[]⟩) (CH := ⟨[]⟩) Try.tok Try.mixed (by kernel_rfl) ?_
        obtain ⟨x1, hx1, hB1⟩ := bindS hB1
        obtain ⟨x2, hx2, hB1⟩ := bindS hB1
        obtain ⟨x3, hx3, hB1⟩ := bindS hB1
        refine ⟨_, rfl, ⟨_, rfl, ⟨_, ⟨_, idx_nat hx1, _, idx_row hx1, rfl⟩, ⟨_, ⟨_, rfl, rfl⟩, ⟨_, rfl, ⟨_, rfl, ⟨_, ⟨_, idx_nat hx2, _, idx_row hx2, rfl⟩, ⟨_, ⟨_, rfl, rfl⟩, ⟨_, ⟨_, .of_pure (w_ref25_SameDisk hx3) (LeL.refl _), rfl⟩, ⟨_, rfl, ⟨True.intro, ?_⟩⟩⟩⟩⟩⟩⟩⟩⟩⟩⟩
        refine Ok.wk (Wk.tab (L := [(0, (.s (List.map c_api_Disk p_a))), (1, (.s (List.map c_api_Disk p_b))), (5, (vi s1)), (26, (vb ((!x3))))]) (H' := []) ⟨Le.refl _, Le.refl _, Le.refl _, Le.refl _, True.intro⟩ True.intro rfl) ?_
        refine Ok.cond (d := 26) (b := (!x3)) rfl hB1 (fun hb hB1 => ?_) fun hb hB1 => ?_
        · refine Ok.seq ?_
          refine Ok.region Try.tok ?_
          refine Ok.wk (Wk.tab (L := [(4, (vb false))]) (H' := []) ⟨Le.refl _, True.intro⟩ True.intro rfl) ?_
          refine Ok.ret ?_
          have hB1 := out_ret hB1 hy1
          cases hB1
          exact Fz.v
        · refine Ok.skip ?_
          refine Ok.region Try.tok ?_
          obtain ⟨hc1, hB1⟩ := chk_some hB1
          refine (Or.inl ⟨hc1, ?_⟩)
          exact ⟨_, (Option.some.inj hB1).symm, Wk.tab ⟨Le.refl _, Le.refl _, Le.refl _, True.intro⟩ True.intro rfl⟩
      · refine Ok.exit ?_
        have hB1 := out_ret hB1 hy1
        exact ⟨_, hB1, Wk.tab True.intro True.intro rfl⟩
    intro v1 h
    unfold ref27_SameDisks_J1 at h
    refine Ok.seq ?_
    refine Ok.region Try.tok ?_
    refine Ok.wk (Wk.tab (L := [(4, (vb true))]) (H' := []) ⟨Le.refl _, True.intro⟩ True.intro rfl) ?_
    refine Ok.ret ?_
    cases h
    exact Fz.v

theorem w_ref29_Has {p_l : List Int} {p_x : Int} {r : Bool} (h : ref29_Has p_l p_x = some r) : Pure Try.prog 11 [(.s (List.map Go.Cat.encI p_l)), (vi p_x)] (vb r) := by
  refine pure_of_ok (n := 18) (c := (Try.f11.body.getD .skip)) Try.tok Try.func11 (by kernel_rfl) rfl rfl (Nat.le_of_ble_eq_true rfl) ?_
  unfold ref29_Has at h
  refine Ok.wk (Wk.tab (L := [(0, (.s (List.map Go.Cat.encI p_l))), (1, (vi p_x))]) (H' := []) ⟨Le.refl _, Le.refl _, True.intro⟩ True.intro rfl) ?_
  refine Ok.seq ?_
  refine Ok.region Try.tok ?_
  refine Ok.wk (Wk.tab (L := [(0, (.s (List.map Go.Cat.encI p_l))), (1, (vi p_x))]) (H' := []) ⟨Le.refl _, Le.refl _, True.intro⟩ True.intro rfl) ?_
  refine Ok.seqj (fun v1 => ⟨Cat.tab [], []⟩) (fun v1 => ref29_Has_J1 v1 = some r) ?_ ?_
  · refine Ok.seq ?_
    refine Ok.region Try.tok ?_
    refine Ok.wk (Wk.tab (L := [(0, (.s (List.map Go.Cat.encI p_l))), (1, (vi p_x)), (5, (vi (0)))]) (H' := []) ⟨Le.refl _, Le.refl _, Le.refl _, True.intro⟩ True.intro rfl) ?_
    refine Ok.block ?_
    refine Ok.loop (fun (s1 : Int) => ⟨Cat.tab [(0, (.s (List.map Go.Cat.encI p_l))), (1, (vi p_x)), (5, (vi s1))], []⟩) (ref29_Has_B1 p_l p_x) (s0 := 0) h (Wk.tab ⟨Le.refl _, Le.refl _, Le.refl _, True.intro⟩ True.intro rfl) ?_
    intro s1 y1 hB1 hy1
    unfold ref29_Has_B1 at hB1
    refine Ok.seq ?_
    refine Ok.seq ?_
    refine Ok.region Try.tok ?_
    refine ⟨_, List.length_map _, fun _ => ?_⟩
    refine Ok.wk (Wk.tab (L := [(0, (.s (List.map Go.Cat.encI p_l))), (1, (vi p_x)), (5, (vi s1)), (9, (vb ((decide (s1 < (p_l.length : Int))))))]) (H' := []) ⟨Le.refl _, Le.refl _, Le.refl _, Le.refl _, True.intro⟩ True.intro rfl) ?_
    refine Ok.cond (d := 9) (b := (decide (s1 < (p_l.length : Int)))) rfl hB1 (fun hb hB1 => ?_) fun hb hB1 => ?_
    · refine Ok.skip ?_
      refine Ok.seq ?_
      refine Ok.block ?_
      refine Ok.seq ?_
      refine Ok.region Try.tok ?_
      obtain ⟨x1, hx1, hB1⟩ := bindS hB1
      refine ⟨_, idx_nat hx1, _, idx_row hx1, ⟨_, rfl, ?_⟩⟩
      refine Ok.wk (Wk.tab (L := [(0, (.s (List.map Go.Cat.encI p_l))), (1, (vi p_x)), (5, (vi s1)), (17, (vb ((x1 == p_x))))]) (H' := []) ⟨Le.refl _, Le.refl _, Le.refl _, Le.refl _, True.intro⟩ True.intro rfl) ?_
      refine Ok.cond (d := 17) (b := (x1 == p_x)) rfl hB1 (fun hb hB1 => ?_) fun hb hB1 => ?_
      · refine Ok.seq ?_
        refine Ok.region Try.tok ?_
        refine Ok.wk (Wk.tab (L := [(4, (vb true))]) (H' := []) ⟨Le.refl _, True.intro⟩ True.intro rfl) ?_
        refine Ok.ret ?_
        have hB1 := out_ret hB1 hy1
        cases hB1
        exact Fz.v
      · refine Ok.skip ?_
        refine Ok.region Try.tok ?_
        obtain ⟨hc1, hB1⟩ := chk_some hB1
        refine (Or.inl ⟨hc1, ?_⟩)
        exact ⟨_, (Option.some.inj hB1).symm, Wk.tab ⟨Le.refl _, Le.refl _, Le.refl _, True.intro⟩ True.intro rfl⟩
    · refine Ok.exit ?_
      have hB1 := out_ret hB1 hy1
      exact ⟨_, hB1, Wk.tab True.intro True.intro rfl⟩
  intro v1 h
  unfold ref29_Has_J1 at h
  refine Ok.seq ?_
  refine Ok.region Try.tok ?_
  refine Ok.wk (Wk.tab (L := [(4, (vb false))]) (H' := []) ⟨Le.refl _, True.intro⟩ True.intro rfl) ?_
  refine Ok.ret ?_
  cases h
  exact Fz.v

theorem w_disk_Crash [Off] {p_d : api_Disk} {p_keep : Int} {r : api_Disk} (h : disk_Crash p_d p_keep = some r) : Pure Try.prog 18 [(.a [(.s (List.map c_api_Page p_d.Synced)), (.s (List.map c_api_Page p_d.Loose)), (vb p_d.Down)]), (vi p_keep)] (.a [(.s (List.map c_api_Page r.Synced)), (.s (List.map c_api_Page r.Loose)), (vb r.Down)]) := by
  refine pure_of_ok (n := 19) (c := (Try.f18.body.getD .skip)) Try.tok Try.func18 (by kernel_rfl) rfl rfl (Nat.le_of_ble_eq_true rfl) ?_
  unfold disk_Crash at h
  refine Ok.wk (Wk.tab (L := [(0, (.a [(.s (List.map c_api_Page p_d.Synced)), (.s (List.map c_api_Page p_d.Loose)), (vb p_d.Down)])), (1, (vi p_keep))]) (H' := []) ⟨Le.refl _, Le.refl _, True.intro⟩ True.intro rfl) ?_
  refine Ok.seq ?_
  refine Ok.region Try.tok ?_
  refine Ok.wk (Wk.tab (L := [(1, (vi p_keep)), (2, (.b 2 0)), (4, (.b 4 0))]) (H' := [(2, .box [(.s (List.map c_api_Page p_d.Synced)), (.s (List.map c_api_Page p_d.Loose)), (vb p_d.Down)]), (4, .box [(.v (.slice none 0 0)), (.v (.slice none 0 0)), (vb false)])]) ⟨Le.refl _, Le.refl _, Le.refl _, True.intro⟩ ⟨⟨_, rfl, .refl _⟩, ⟨_, rfl, .refl _⟩, True.intro⟩ rfl) ?_
  refine Ok.seq ?_
  refine Ok.region Try.tok ?_
  refine ⟨_, rfl, ⟨_, rfl, ⟨_, List.length_map _, fun _ => ⟨_, rfl, ?_⟩⟩⟩⟩
  refine Ok.wk (Wk.tab (L := [(1, (vi ((min ((max p_keep (0))) ((p_d.Loose.length : Int)))))), (2, (.b 2 0)), (4, (.b 4 0))]) (H' := [(2, .box [(.s (List.map c_api_Page p_d.Synced)), (.s (List.map c_api_Page p_d.Loose)), (vb p_d.Down)]), (4, .box [(.v (.slice none 0 0)), (.v (.slice none 0 0)), (vb false)])]) ⟨Le.refl _, Le.refl _, Le.refl _, True.intro⟩ ⟨⟨_, rfl, .refl _⟩, ⟨_, rfl, .refl _⟩, True.intro⟩ rfl) ?_
  refine Ok.seq ?_
  refine Ok.draw (m := 8) (MD := ⟨[]⟩) (CH := ⟨[]⟩) Try.tok Try.mixed (by kernel_rfl) ?_
  obtain ⟨hc1, h⟩ := chk_some h
  obtain ⟨x1, hx1, h⟩ := bindS h
  refine ⟨_, rfl, ⟨_, ⟨_, rfl, rfl⟩, ⟨_, rfl, ⟨_, ⟨_, rfl, rfl⟩, ⟨_, rfl, ⟨_, ⟨_, sl_nat hc1.1, Nat.zero_le _, sl_len hc1, rowsK (f := c_api_Page) (K := 2) (fun _ => rfl) p_d.Loose, _, sl_take _ _ _, rfl⟩, ⟨_, ⟨_, .of_pure (w_disk_laid hx1) (LeL.refl _), rfl⟩, ⟨_, rfl, ⟨True.intro, ⟨_, rfl, ?_⟩⟩⟩⟩⟩⟩⟩⟩⟩⟩
  refine Ok.wk (Wk.tab (L := [(4, (.b 4 0))]) (H' := [(4, .box [(.s (List.map c_api_Page x1)), (.v (.slice none 0 0)), (vb true)])]) ⟨Le.refl _, True.intro⟩ ⟨⟨_, rfl, .refl _⟩, True.intro⟩ rfl) ?_
  refine Ok.ret ?_
  cases h
  exact ⟨_, rfl, (Fz.a (.cons Fz.s (.cons Fz.nil (.cons Fz.v .nil))))⟩

theorem w_disk_Up {p_d : api_Disk} {r : api_Disk} (h : disk_Up p_d = some r) : Pure Try.prog 17 [(.a [(.s (List.map c_api_Page p_d.Synced)), (.s (List.map c_api_Page p_d.Loose)), (vb p_d.Down)])] (.a [(.s (List.map c_api_Page r.Synced)), (.s (List.map c_api_Page r.Loose)), (vb r.Down)]) := by
  refine pure_of_ok (n := 5) (c := (Try.f17.body.getD .skip)) Try.tok Try.func17 (by kernel_rfl) rfl rfl (Nat.le_of_ble_eq_true rfl) ?_
  unfold disk_Up at h
  refine Ok.wk (Wk.tab (L := [(0, (.a [(.s (List.map c_api_Page p_d.Synced)), (.s (List.map c_api_Page p_d.Loose)), (vb p_d.Down)]))]) (H' := []) ⟨Le.refl _, True.intro⟩ True.intro rfl) ?_
  refine Ok.seq ?_
  refine Ok.region Try.tok ?_
  refine Ok.wk (Wk.tab (L := [(1, (.b 1 0)), (2, (.b 2 0))]) (H' := [(1, .box [(.s (List.map c_api_Page p_d.Synced)), (.s (List.map c_api_Page p_d.Loose)), (vb p_d.Down)]), (2, .box [(.v (.slice none 0 0)), (.v (.slice none 0 0)), (vb false)])]) ⟨Le.refl _, Le.refl _, True.intro⟩ ⟨⟨_, rfl, .refl _⟩, ⟨_, rfl, .refl _⟩, True.intro⟩ rfl) ?_
  refine Ok.seq ?_
  refine Ok.region Try.tok ?_
  refine ⟨_, rfl, ?_⟩
  refine Ok.wk (Wk.tab (L := [(1, (.b 1 0)), (2, (.b 2 0))]) (H' := [(1, .box [(.s (List.map c_api_Page p_d.Synced)), (.s (List.map c_api_Page p_d.Loose)), (vb false)]), (2, .box [(.v (.slice none 0 0)), (.v (.slice none 0 0)), (vb false)])]) ⟨Le.refl _, Le.refl _, True.intro⟩ ⟨⟨_, rfl, .refl _⟩, ⟨_, rfl, .refl _⟩, True.intro⟩ rfl) ?_
  refine Ok.seq ?_
  refine Ok.region Try.tok ?_
  refine ⟨_, rfl, ⟨_, rfl, ?_⟩⟩
  refine Ok.wk (Wk.tab (L := [(2, (.b 2 0))]) (H' := [(2, .box [(.s (List.map c_api_Page p_d.Synced)), (.s (List.map c_api_Page p_d.Loose)), (vb false)])]) ⟨Le.refl _, True.intro⟩ ⟨⟨_, rfl, .refl _⟩, True.intro⟩ rfl) ?_
  refine Ok.ret ?_
  cases h
  exact ⟨_, rfl, (Fz.imm rfl)⟩

theorem w_law29_SweepAll [Off] {p_x : law29_Set} {p_now : Int} {p_keep : Int} {r : Bool} (h : law29_SweepAll p_x p_now p_keep = some r) : Pure Try.prog 5 [(.a [(.s (List.map c_api_Named p_x.Named)), (.s (List.map c_api_Room p_x.Rooms)), (.s (List.map c_api_Lease p_x.Leases)), (.s (List.map c_api_Disk p_x.Disks))]), (vi p_now), (vi p_keep)] (vb r) := by
  refine pure_of_ok (n := 135) (c := (Try.f5.body.getD .skip)) Try.tok Try.func5 (by kernel_rfl) rfl rfl (Nat.le_of_ble_eq_true rfl) ?_
  unfold law29_SweepAll at h
  refine Ok.wk (Wk.tab (L := [(0, (.a [(.s (List.map c_api_Named p_x.Named)), (.s (List.map c_api_Room p_x.Rooms)), (.s (List.map c_api_Lease p_x.Leases)), (.s (List.map c_api_Disk p_x.Disks))])), (1, (vi p_now)), (2, (vi p_keep))]) (H' := []) ⟨Le.refl _, Le.refl _, Le.refl _, True.intro⟩ True.intro rfl) ?_
  refine Ok.seq ?_
  refine Ok.region Try.tok ?_
  refine Ok.wk (Wk.tab (L := [(1, (vi p_now)), (2, (vi p_keep)), (3, (.b 3 0))]) (H' := [(3, .box [(.s (List.map c_api_Named p_x.Named)), (.s (List.map c_api_Room p_x.Rooms)), (.s (List.map c_api_Lease p_x.Leases)), (.s (List.map c_api_Disk p_x.Disks))])]) ⟨Le.refl _, Le.refl _, Le.refl _, True.intro⟩ ⟨⟨_, rfl, .refl _⟩, True.intro⟩ rfl) ?_
  refine Ok.seq ?_
  refine Ok.region Try.tok ?_
  obtain ⟨x1, hx1, h⟩ := bindS h
  refine CallOk.call (w_law29_head hx1) (LeL.refl _) ?_
  refine Ok.wk (Wk.tab (L := [(1, (vi p_now)), (2, (vi p_keep)), (3, (.b 3 0)), (7, (vb x1))]) (H' := [(3, .box [(.s (List.map c_api_Named p_x.Named)), (.s (List.map c_api_Room p_x.Rooms)), (.s (List.map c_api_Lease p_x.Leases)), (.s (List.map c_api_Disk p_x.Disks))])]) ⟨Le.refl _, Le.refl _, Le.refl _, Le.refl _, True.intro⟩ ⟨⟨_, rfl, .refl _⟩, True.intro⟩ rfl) ?_
  refine Ok.seq ?_
  refine Ok.seq ?_
  refine Ok.region Try.tok ?_
  obtain ⟨x2, hx2, h⟩ := bindS h
  refine ⟨_, rfl, ?_⟩
  refine CallOk.call (w_law29_Great hx2) (LeL.refl _) ?_
  refine Ok.wk (Wk.tab (L := [(1, (vi p_now)), (2, (vi p_keep)), (3, (.b 3 0)), (7, (vb x1)), (19, (vb x2))]) (H' := [(3, .box [(.s (List.map c_api_Named p_x.Named)), (.s (List.map c_api_Room p_x.Rooms)), (.s (List.map c_api_Lease p_x.Leases)), (.s (List.map c_api_Disk p_x.Disks))])]) ⟨Le.refl _, Le.refl _, Le.refl _, Le.refl _, Le.refl _, True.intro⟩ ⟨⟨_, rfl, .refl _⟩, True.intro⟩ rfl) ?_
  refine Ok.cond (d := 19) (b := x2) rfl h (fun hb h => ?_) fun hb h => ?_
  · refine Ok.seq ?_
    refine Ok.region Try.tok ?_
    refine Ok.wk (Wk.tab (L := [(6, (vb x1))]) (H' := []) ⟨Le.refl _, True.intro⟩ True.intro rfl) ?_
    refine Ok.ret ?_
    cases h
    exact Fz.v
  · refine Ok.skip ?_
    refine Ok.seq ?_
    refine Ok.region Try.tok ?_
    obtain ⟨x3, hx3, h⟩ := bindS h
    refine ⟨_, rfl, ⟨_, rfl, ⟨_, rfl, ?_⟩⟩⟩
    refine CallOk.call (w_sweep_Keeps hx3) (LeL.refl _) ?_
    refine Ok.wk (Wk.tab (L := [(1, (vi p_now)), (2, (vi p_keep)), (3, (.b 3 0)), (7, (vb x1)), (8, (.s (List.map Go.Cat.encI x3)))]) (H' := [(3, .box [(.s (List.map c_api_Named p_x.Named)), (.s (List.map c_api_Room p_x.Rooms)), (.s (List.map c_api_Lease p_x.Leases)), (.s (List.map c_api_Disk p_x.Disks))])]) ⟨Le.refl _, Le.refl _, Le.refl _, Le.refl _, Le.refl _, True.intro⟩ ⟨⟨_, rfl, .refl _⟩, True.intro⟩ rfl) ?_
    refine Ok.seq ?_
    refine Ok.region Try.tok ?_
    obtain ⟨x4, hx4, h⟩ := bindS h
    refine ⟨_, rfl, ⟨_, rfl, ⟨_, rfl, ⟨_, rfl, ?_⟩⟩⟩⟩
    refine CallOk.call (w_sweep_Sweep hx4) (LeL.refl _) ?_
    refine Ok.wk (Wk.tab (L := [(1, (vi p_now)), (2, (vi p_keep)), (3, (.b 3 0)), (7, (vb x1)), (8, (.s (List.map Go.Cat.encI x3))), (9, (.s (List.map c_api_Disk x4.1))), (10, (.s (List.map c_api_Room x4.2)))]) (H' := [(3, .box [(.s (List.map c_api_Named p_x.Named)), (.s (List.map c_api_Room p_x.Rooms)), (.s (List.map c_api_Lease p_x.Leases)), (.s (List.map c_api_Disk p_x.Disks))])]) ⟨Le.refl _, Le.refl _, Le.refl _, Le.refl _, Le.refl _, Le.refl _, Le.refl _, True.intro⟩ ⟨⟨_, rfl, .refl _⟩, True.intro⟩ rfl) ?_
    refine Ok.seq ?_
    refine Ok.region Try.tok ?_
    obtain ⟨x5, hx5, h⟩ := bindS h
    refine ⟨_, rfl, ⟨_, rfl, ?_⟩⟩
    refine CallOk.call (w_sweep_Sweep hx5) (LeL.refl _) ?_
    refine Ok.wk (Wk.tab (L := [(2, (vi p_keep)), (3, (.b 3 0)), (7, (vb x1)), (8, (.s (List.map Go.Cat.encI x3))), (9, (.s (List.map c_api_Disk x4.1))), (10, (.s (List.map c_api_Room x4.2))), (11, (.s (List.map c_api_Disk x5.1))), (12, (.s (List.map c_api_Room x5.2)))]) (H' := [(3, .box [(.s (List.map c_api_Named p_x.Named)), (.s (List.map c_api_Room p_x.Rooms)), (.s (List.map c_api_Lease p_x.Leases)), (.s (List.map c_api_Disk p_x.Disks))])]) ⟨Le.refl _, Le.refl _, Le.refl _, Le.refl _, Le.refl _, Le.refl _, Le.refl _, Le.refl _, True.intro⟩ ⟨⟨_, rfl, .refl _⟩, True.intro⟩ rfl) ?_
    refine Ok.seq ?_
    obtain ⟨v1, hv1, h⟩ := bindS h
    refine Ok.seqw ⟨Cat.tab [(2, (vi p_keep)), (3, (.b 3 0)), (7, (vb x1)), (8, (.s (List.map Go.Cat.encI x3))), (9, (.s (List.map c_api_Disk x4.1))), (70, (vb v1))], [(3, .box [(.s (List.map c_api_Named p_x.Named)), (.s (List.map c_api_Room p_x.Rooms)), (.s (List.map c_api_Lease p_x.Leases)), (.s (List.map c_api_Disk p_x.Disks))])]⟩ ?_ ?_
    · refine Ok.region Try.tok ?_
      refine ⟨_, List.length_map _, fun _ => ⟨_, rfl, ⟨_, List.length_map _, fun _ => ?_⟩⟩⟩
      obtain ⟨c1, hg1, hv1⟩ := bindS hv1
      refine Br.itf hg1 (fun hb hg1 => ?_) fun hb hg1 => ?_
      · cases hg1
        obtain ⟨c2, hg2, hv1⟩ := bindS hv1
        replace hg2 := iteT hg2
        cases hg2
        cases hv1
        exact Wk.tab ⟨Le.refl _, Le.refl _, Le.refl _, Le.refl _, Le.refl _, Le.refl _, True.intro⟩ ⟨⟨_, rfl, .refl _⟩, True.intro⟩ rfl
      · obtain ⟨x6, hx6, hg1⟩ := bindS hg1
        refine CallOk.call (w_ref27_SameDisks hx6) (LeL.refl _) ?_
        cases hg1
        obtain ⟨c2, hg3, hv1⟩ := bindS hv1
        refine Br.itf hg3 (fun hb hg3 => ?_) fun hb hg3 => ?_
        · cases hg3
          cases hv1
          exact Wk.tab ⟨Le.refl _, Le.refl _, Le.refl _, Le.refl _, Le.refl _, Le.refl _, True.intro⟩ ⟨⟨_, rfl, .refl _⟩, True.intro⟩ rfl
        · obtain ⟨x7, hx7, hg3⟩ := bindS hg3
          refine CallOk.call (w_ref29_SameRooms hx7) (LeL.refl _) ?_
          cases hg3
          cases hv1
          exact Wk.tab ⟨Le.refl _, Le.refl _, Le.refl _, Le.refl _, Le.refl _, Le.refl _, True.intro⟩ ⟨⟨_, rfl, .refl _⟩, True.intro⟩ rfl
    refine Ok.cond (d := 70) (b := v1) rfl h (fun hb h => ?_) fun hb h => ?_
    · refine Ok.seq ?_
      refine Ok.region Try.tok ?_
      refine Ok.wk (Wk.tab (L := [(6, (vb false))]) (H' := []) ⟨Le.refl _, True.intro⟩ True.intro rfl) ?_
      refine Ok.ret ?_
      cases h
      exact Fz.v
    · refine Ok.skip ?_
      refine Ok.seqj (fun v2 => ⟨Cat.tab [(7, (vb x1))], []⟩) (fun v2 => law29_SweepAll_J1 x1 v2 = some r) ?_ ?_
      · refine Ok.seq ?_
        refine Ok.region Try.tok ?_
        refine Ok.wk (Wk.tab (L := [(2, (vi p_keep)), (3, (.b 3 0)), (7, (vb x1)), (8, (.s (List.map Go.Cat.encI x3))), (9, (.s (List.map c_api_Disk x4.1))), (13, (vi (0)))]) (H' := [(3, .box [(.s (List.map c_api_Named p_x.Named)), (.s (List.map c_api_Room p_x.Rooms)), (.s (List.map c_api_Lease p_x.Leases)), (.s (List.map c_api_Disk p_x.Disks))])]) ⟨Le.refl _, Le.refl _, Le.refl _, Le.refl _, Le.refl _, Le.refl _, True.intro⟩ ⟨⟨_, rfl, .refl _⟩, True.intro⟩ rfl) ?_
        refine Ok.block ?_
        refine Ok.loop (fun (s1 : Int) => ⟨Cat.tab [(2, (vi p_keep)), (3, (.b 3 0)), (7, (vb x1)), (8, (.s (List.map Go.Cat.encI x3))), (9, (.s (List.map c_api_Disk x4.1))), (13, (vi s1))], [(3, .box [(.s (List.map c_api_Named p_x.Named)), (.s (List.map c_api_Room p_x.Rooms)), (.s (List.map c_api_Lease p_x.Leases)), (.s (List.map c_api_Disk p_x.Disks))])]⟩) (law29_SweepAll_B1 x4 p_x x3 p_keep x1) (s0 := 0) h (Wk.tab ⟨Le.refl _, Le.refl _, Le.refl _, Le.refl _, Le.refl _, Le.refl _, True.intro⟩ ⟨⟨_, rfl, .refl _⟩, True.intro⟩ rfl) ?_
        intro s1 y1 hB1 hy1
        unfold law29_SweepAll_B1 at hB1
        refine Ok.seq ?_
        refine Ok.seq ?_
        refine Ok.region Try.tok ?_
        refine ⟨_, List.length_map _, fun _ => ?_⟩
        refine Ok.wk (Wk.tab (L := [(2, (vi p_keep)), (3, (.b 3 0)), (7, (vb x1)), (8, (.s (List.map Go.Cat.encI x3))), (9, (.s (List.map c_api_Disk x4.1))), (13, (vi s1)), (74, (vb ((decide (s1 < (x4.1.length : Int))))))]) (H' := [(3, .box [(.s (List.map c_api_Named p_x.Named)), (.s (List.map c_api_Room p_x.Rooms)), (.s (List.map c_api_Lease p_x.Leases)), (.s (List.map c_api_Disk p_x.Disks))])]) ⟨Le.refl _, Le.refl _, Le.refl _, Le.refl _, Le.refl _, Le.refl _, Le.refl _, True.intro⟩ ⟨⟨_, rfl, .refl _⟩, True.intro⟩ rfl) ?_
        refine Ok.cond (d := 74) (b := (decide (s1 < (x4.1.length : Int)))) rfl hB1 (fun hb hB1 => ?_) fun hb hB1 => ?_
        · refine Ok.skip ?_
          refine Ok.seqj (fun v3 => ⟨Cat.tab [(2, (vi p_keep)), (3, (.b 3 0)), (7, (vb x1)), (8, (.s (List.map Go.Cat.encI x3))), (9, (.s (List.map c_api_Disk x4.1))), (13, (vi s1))], [(3, .box [(.s (List.map c_api_Named p_x.Named)), (.s (List.map c_api_Room p_x.Rooms)), (.s (List.map c_api_Lease p_x.Leases)), (.s (List.map c_api_Disk p_x.Disks))])]⟩) (fun v3 => law29_SweepAll_J2 s1 v3 = some y1) ?_ ?_
          · refine Ok.block ?_
            refine Ok.seq ?_
            refine Ok.region Try.tok ?_
            obtain ⟨x8, hx8, hB1⟩ := bindS hB1
            obtain ⟨x9, hx9, hB1⟩ := bindS hB1
            refine ⟨_, rfl, ⟨_, idx_nat hx8, _, idx_row hx8, ⟨_, rfl, ?_⟩⟩⟩
            refine CallOk.call (w_chunk_Has hx9) (LeL.refl _) ?_
            refine Ok.wk (Wk.tab (L := [(2, (vi p_keep)), (3, (.b 3 0)), (7, (vb x1)), (8, (.s (List.map Go.Cat.encI x3))), (9, (.s (List.map c_api_Disk x4.1))), (13, (vi s1)), (14, (.s (List.map Go.Cat.encI x9)))]) (H' := [(3, .box [(.s (List.map c_api_Named p_x.Named)), (.s (List.map c_api_Room p_x.Rooms)), (.s (List.map c_api_Lease p_x.Leases)), (.s (List.map c_api_Disk p_x.Disks))])]) ⟨Le.refl _, Le.refl _, Le.refl _, Le.refl _, Le.refl _, Le.refl _, Le.refl _, True.intro⟩ ⟨⟨_, rfl, .refl _⟩, True.intro⟩ rfl) ?_
            refine Ok.seq ?_
            refine Ok.region Try.tok ?_
            refine Ok.wk (Wk.tab (L := [(2, (vi p_keep)), (3, (.b 3 0)), (7, (vb x1)), (8, (.s (List.map Go.Cat.encI x3))), (9, (.s (List.map c_api_Disk x4.1))), (13, (vi s1)), (14, (.s (List.map Go.Cat.encI x9))), (15, (.v (.slice none 0 0)))]) (H' := [(3, .box [(.s (List.map c_api_Named p_x.Named)), (.s (List.map c_api_Room p_x.Rooms)), (.s (List.map c_api_Lease p_x.Leases)), (.s (List.map c_api_Disk p_x.Disks))])]) ⟨Le.refl _, Le.refl _, Le.refl _, Le.refl _, Le.refl _, Le.refl _, Le.refl _, Le.refl _, True.intro⟩ ⟨⟨_, rfl, .refl _⟩, True.intro⟩ rfl) ?_
            obtain ⟨v4, hv4, hB1⟩ := bindS hB1
            refine Ok.seqw ⟨Cat.tab [(2, (vi p_keep)), (3, (.b 3 0)), (7, (vb x1)), (8, (.s (List.map Go.Cat.encI x3))), (9, (.s (List.map c_api_Disk x4.1))), (13, (vi s1)), (14, (.s (List.map Go.Cat.encI x9))), (15, (.o 101))], [(3, .box [(.s (List.map c_api_Named p_x.Named)), (.s (List.map c_api_Room p_x.Rooms)), (.s (List.map c_api_Lease p_x.Leases)), (.s (List.map c_api_Disk p_x.Disks))]), (101, .own 3 1 (List.map Go.Cat.encI v4))]⟩ ?_ ?_
            · refine Ok.seq ?_
              refine Ok.region Try.tok ?_
              refine Ok.wk (Wk.tab (L := [(2, (vi p_keep)), (3, (.b 3 0)), (7, (vb x1)), (8, (.s (List.map Go.Cat.encI x3))), (9, (.s (List.map c_api_Disk x4.1))), (13, (vi s1)), (14, (.s (List.map Go.Cat.encI x9))), (15, (.v (.slice none 0 0))), (16, (vi (0)))]) (H' := [(3, .box [(.s (List.map c_api_Named p_x.Named)), (.s (List.map c_api_Room p_x.Rooms)), (.s (List.map c_api_Lease p_x.Leases)), (.s (List.map c_api_Disk p_x.Disks))])]) ⟨Le.refl _, Le.refl _, Le.refl _, Le.refl _, Le.refl _, Le.refl _, Le.refl _, Le.refl _, Le.refl _, True.intro⟩ ⟨⟨_, rfl, .refl _⟩, True.intro⟩ rfl) ?_
              refine Ok.block ?_
              refine Ok.loop (fun (s2 : Int × (List Int)) => ⟨Cat.tab [(2, (vi p_keep)), (3, (.b 3 0)), (7, (vb x1)), (8, (.s (List.map Go.Cat.encI x3))), (9, (.s (List.map c_api_Disk x4.1))), (13, (vi s1)), (14, (.s (List.map Go.Cat.encI x9))), (15, (.o 101)), (16, (vi s2.1))], [(3, .box [(.s (List.map c_api_Named p_x.Named)), (.s (List.map c_api_Room p_x.Rooms)), (.s (List.map c_api_Lease p_x.Leases)), (.s (List.map c_api_Disk p_x.Disks))]), (101, .own 3 1 (List.map Go.Cat.encI s2.2))]⟩) (law29_SweepAll_B2 x9 x3) (s0 := (0, [])) hv4 ((Wk.own0 (t := 15) (id := 101) (E := 3) (K := 1) rfl rfl).trans (Wk.tab ⟨Le.refl _, Le.refl _, Le.refl _, Le.refl _, Le.refl _, Le.refl _, Le.refl _, Le.refl _, Le.refl _, True.intro⟩ ⟨⟨_, rfl, .refl _⟩, ⟨_, rfl, .refl _⟩, True.intro⟩ rfl)) ?_
              intro s2 y2 hB2 hy2
              unfold law29_SweepAll_B2 at hB2
              refine Ok.seq ?_
              refine Ok.seq ?_
              refine Ok.region Try.tok ?_
              refine ⟨_, List.length_map _, fun _ => ?_⟩
              refine Ok.wk (Wk.tab (L := [(2, (vi p_keep)), (3, (.b 3 0)), (7, (vb x1)), (8, (.s (List.map Go.Cat.encI x3))), (9, (.s (List.map c_api_Disk x4.1))), (13, (vi s1)), (14, (.s (List.map Go.Cat.encI x9))), (15, (.o 101)), (16, (vi s2.1)), (86, (vb ((decide (s2.1 < (x9.length : Int))))))]) (H' := [(3, .box [(.s (List.map c_api_Named p_x.Named)), (.s (List.map c_api_Room p_x.Rooms)), (.s (List.map c_api_Lease p_x.Leases)), (.s (List.map c_api_Disk p_x.Disks))]), (101, .own 3 1 (List.map Go.Cat.encI s2.2))]) ⟨Le.refl _, Le.refl _, Le.refl _, Le.refl _, Le.refl _, Le.refl _, Le.refl _, Le.refl _, Le.refl _, Le.refl _, True.intro⟩ ⟨⟨_, rfl, .refl _⟩, ⟨_, rfl, .refl _⟩, True.intro⟩ rfl) ?_
              refine Ok.cond (d := 86) (b := (decide (s2.1 < (x9.length : Int)))) rfl hB2 (fun hb hB2 => ?_) fun hb hB2 => ?_
              · refine Ok.skip ?_
                obtain ⟨v5, hv5, hB2⟩ := bindS hB2
                refine Ok.seqw ⟨Cat.tab [(2, (vi p_keep)), (3, (.b 3 0)), (7, (vb x1)), (8, (.s (List.map Go.Cat.encI x3))), (9, (.s (List.map c_api_Disk x4.1))), (13, (vi s1)), (14, (.s (List.map Go.Cat.encI x9))), (15, (.o 101)), (16, (vi s2.1))], [(3, .box [(.s (List.map c_api_Named p_x.Named)), (.s (List.map c_api_Room p_x.Rooms)), (.s (List.map c_api_Lease p_x.Leases)), (.s (List.map c_api_Disk p_x.Disks))]), (101, .own 3 1 (List.map Go.Cat.encI v5))]⟩ ?_ ?_
                · refine Ok.block ?_
                  refine Ok.seq ?_
                  refine Ok.region Try.tok ?_
                  obtain ⟨x10, hx10, hv5⟩ := bindS hv5
                  obtain ⟨x11, hx11, hv5⟩ := bindS hv5
                  refine ⟨_, idx_nat hx10, _, idx_row hx10, ⟨_, rfl, ?_⟩⟩
                  refine CallOk.call (w_ref29_Has hx11) (LeL.refl _) ?_
                  refine Ok.wk (Wk.tab (L := [(2, (vi p_keep)), (3, (.b 3 0)), (7, (vb x1)), (8, (.s (List.map Go.Cat.encI x3))), (9, (.s (List.map c_api_Disk x4.1))), (13, (vi s1)), (14, (.s (List.map Go.Cat.encI x9))), (15, (.o 101)), (16, (vi s2.1)), (94, (vb x11))]) (H' := [(3, .box [(.s (List.map c_api_Named p_x.Named)), (.s (List.map c_api_Room p_x.Rooms)), (.s (List.map c_api_Lease p_x.Leases)), (.s (List.map c_api_Disk p_x.Disks))]), (101, .own 3 1 (List.map Go.Cat.encI s2.2))]) ⟨Le.refl _, Le.refl _, Le.refl _, Le.refl _, Le.refl _, Le.refl _, Le.refl _, Le.refl _, Le.refl _, Le.refl _, True.intro⟩ ⟨⟨_, rfl, .refl _⟩, ⟨_, rfl, .refl _⟩, True.intro⟩ rfl) ?_
                  refine Ok.cond (d := 94) (b := x11) rfl hv5 (fun hb hv5 => ?_) fun hb hv5 => ?_
                  · refine Ok.region Try.tok ?_
                    obtain ⟨x12, hx12, hv5⟩ := bindS hv5
                    obtain ⟨hc1, hv5⟩ := chk_some hv5
                    refine ⟨_, idx_nat hx12, _, idx_row hx12, ⟨_, rfl, Or.inl ⟨rowsLen_map (f := Go.Cat.encI) (n := 1) (fun _ => rfl) ([x12]), app_b2 (f := Go.Cat.encI) (l := s2.2) (l' := ([x12])) hc1, _, (List.map_append (f := Go.Cat.encI) (l₁ := s2.2) (l₂ := ([x12]))).symm, ?_⟩⟩⟩
                    cases hv5
                    exact Wk.tab ⟨Le.refl _, Le.refl _, Le.refl _, Le.refl _, Le.refl _, Le.refl _, Le.refl _, Le.refl _, Le.refl _, True.intro⟩ ⟨⟨_, rfl, .refl _⟩, ⟨_, rfl, .refl _⟩, True.intro⟩ rfl
                  · refine Ok.skip ?_
                    cases hv5
                    exact Wk.tab ⟨Le.refl _, Le.refl _, Le.refl _, Le.refl _, Le.refl _, Le.refl _, Le.refl _, Le.refl _, Le.refl _, True.intro⟩ ⟨⟨_, rfl, .refl _⟩, ⟨_, rfl, .refl _⟩, True.intro⟩ rfl
                refine Ok.region Try.tok ?_
                obtain ⟨hc2, hB2⟩ := chk_some hB2
                refine (Or.inl ⟨hc2, ?_⟩)
                exact ⟨_, (Option.some.inj hB2).symm, Wk.tab ⟨Le.refl _, Le.refl _, Le.refl _, Le.refl _, Le.refl _, Le.refl _, Le.refl _, Le.refl _, Le.refl _, True.intro⟩ ⟨⟨_, rfl, .refl _⟩, ⟨_, rfl, .refl _⟩, True.intro⟩ rfl⟩
              · refine Ok.exit ?_
                have hB2 := out_ret hB2 hy2
                cases hB2
                exact Wk.tab ⟨Le.refl _, Le.refl _, Le.refl _, Le.refl _, Le.refl _, Le.refl _, Le.refl _, Le.refl _, True.intro⟩ ⟨⟨_, rfl, .refl _⟩, ⟨_, rfl, .refl _⟩, True.intro⟩ rfl
            refine Ok.seq ?_
            refine Ok.seq ?_
            refine Ok.region Try.tok ?_
            obtain ⟨x13, hx13, hB1⟩ := bindS hB1
            obtain ⟨x14, hx14, hB1⟩ := bindS hB1
            refine ⟨_, idx_nat hx13, _, idx_row hx13, ⟨_, rfl, ?_⟩⟩
            refine CallOk.call (w_chunk_Has hx14) (LeL.refl _) ?_
            obtain ⟨x15, hx15, hB1⟩ := bindS hB1
            refine CallOk.borrow (w_ref02_Ints hx15) (.cons Fz.s (.cons (Fz.o rfl) (.nil))) rfl ?_
            refine Ok.wk (Wk.tab (L := [(2, (vi p_keep)), (3, (.b 3 0)), (7, (vb x1)), (8, (.s (List.map Go.Cat.encI x3))), (9, (.s (List.map c_api_Disk x4.1))), (13, (vi s1)), (14, (.s (List.map Go.Cat.encI x9))), (15, (.o 101)), (109, (vb ((!x15))))]) (H' := [(3, .box [(.s (List.map c_api_Named p_x.Named)), (.s (List.map c_api_Room p_x.Rooms)), (.s (List.map c_api_Lease p_x.Leases)), (.s (List.map c_api_Disk p_x.Disks))]), (101, .own 3 1 (List.map Go.Cat.encI v4))]) ⟨Le.refl _, Le.refl _, Le.refl _, Le.refl _, Le.refl _, Le.refl _, Le.refl _, Le.refl _, Le.refl _, True.intro⟩ ⟨⟨_, rfl, .refl _⟩, ⟨_, rfl, .refl _⟩, True.intro⟩ rfl) ?_
            refine Ok.cond (d := 109) (b := (!x15)) rfl hB1 (fun hb hB1 => ?_) fun hb hB1 => ?_
            · refine Ok.seq ?_
              refine Ok.region Try.tok ?_
              refine Ok.wk (Wk.tab (L := [(6, (vb false))]) (H' := []) ⟨Le.refl _, True.intro⟩ True.intro rfl) ?_
              refine Ok.ret ?_
              have hB1 := out_ret hB1 hy1
              cases hB1
              exact Fz.v
            · refine Ok.skip ?_
              refine Ok.seq ?_
              obtain ⟨v6, hv6, hB1⟩ := bindS hB1
              refine Ok.seqw ⟨Cat.tab [(2, (vi p_keep)), (3, (.b 3 0)), (7, (vb x1)), (8, (.s (List.map Go.Cat.encI x3))), (9, (.s (List.map c_api_Disk x4.1))), (13, (vi s1)), (15, (.o 101)), (122, (vb v6))], [(3, .box [(.s (List.map c_api_Named p_x.Named)), (.s (List.map c_api_Room p_x.Rooms)), (.s (List.map c_api_Lease p_x.Leases)), (.s (List.map c_api_Disk p_x.Disks))]), (101, .own 3 1 (List.map Go.Cat.encI v4))]⟩ ?_ ?_
              · refine Ok.region Try.tok ?_
                refine ⟨_, List.length_map _, fun _ => ⟨_, List.length_map _, fun _ => ?_⟩⟩
                obtain ⟨c3, hg4, hv6⟩ := bindS hv6
                refine Br.itf hg4 (fun hb hg4 => ?_) fun hb hg4 => ?_
                · cases hg4
                  cases hv6
                  exact Wk.tab ⟨Le.refl _, Le.refl _, Le.refl _, Le.refl _, Le.refl _, Le.refl _, Le.refl _, Le.refl _, True.intro⟩ ⟨⟨_, rfl, .refl _⟩, ⟨_, rfl, .refl _⟩, True.intro⟩ rfl
                · obtain ⟨x16, hx16, hg4⟩ := bindS hg4
                  refine ⟨_, rfl, ⟨_, idx_nat hx16, _, idx_row hx16, ⟨_, rfl, ?_⟩⟩⟩
                  cases hg4
                  cases hv6
                  exact Wk.tab ⟨Le.refl _, Le.refl _, Le.refl _, Le.refl _, Le.refl _, Le.refl _, Le.refl _, Le.refl _, True.intro⟩ ⟨⟨_, rfl, .refl _⟩, ⟨_, rfl, .refl _⟩, True.intro⟩ rfl
              refine Ok.cond (d := 122) (b := v6) rfl hB1 (fun hb hB1 => ?_) fun hb hB1 => ?_
              · refine Ok.exit ?_
                exact ⟨_, hB1, Wk.tab ⟨Le.refl _, Le.refl _, Le.refl _, Le.refl _, Le.refl _, Le.refl _, True.intro⟩ ⟨⟨_, rfl, .refl _⟩, True.intro⟩ rfl⟩
              · refine Ok.skip ?_
                refine Ok.seq ?_
                refine Ok.region Try.tok ?_
                obtain ⟨x17, hx17, hB1⟩ := bindS hB1
                obtain ⟨x18, hx18, hB1⟩ := bindS hB1
                refine ⟨_, idx_nat hx17, _, idx_row hx17, ⟨_, rfl, ?_⟩⟩
                refine CallOk.call (w_disk_Crash hx18) (LeL.refl _) ?_
                obtain ⟨x19, hx19, hB1⟩ := bindS hB1
                refine CallOk.call (w_disk_Up hx19) (LeL.refl _) ?_
                obtain ⟨x20, hx20, hB1⟩ := bindS hB1
                refine CallOk.call (w_chunk_Has hx20) (LeL.refl _) ?_
                obtain ⟨x21, hx21, hB1⟩ := bindS hB1
                refine CallOk.borrow (w_ref02_Ints hx21) (.cons Fz.s (.cons (Fz.o rfl) (.nil))) rfl ?_
                refine Ok.wk (Wk.tab (L := [(2, (vi p_keep)), (3, (.b 3 0)), (7, (vb x1)), (8, (.s (List.map Go.Cat.encI x3))), (9, (.s (List.map c_api_Disk x4.1))), (13, (vi s1)), (133, (vb ((!x21))))]) (H' := [(3, .box [(.s (List.map c_api_Named p_x.Named)), (.s (List.map c_api_Room p_x.Rooms)), (.s (List.map c_api_Lease p_x.Leases)), (.s (List.map c_api_Disk p_x.Disks))])]) ⟨Le.refl _, Le.refl _, Le.refl _, Le.refl _, Le.refl _, Le.refl _, Le.refl _, True.intro⟩ ⟨⟨_, rfl, .refl _⟩, True.intro⟩ rfl) ?_
                refine Ok.cond (d := 133) (b := (!x21)) rfl hB1 (fun hb hB1 => ?_) fun hb hB1 => ?_
                · refine Ok.seq ?_
                  refine Ok.region Try.tok ?_
                  refine Ok.wk (Wk.tab (L := [(6, (vb false))]) (H' := []) ⟨Le.refl _, True.intro⟩ True.intro rfl) ?_
                  refine Ok.ret ?_
                  have hB1 := out_ret hB1 hy1
                  cases hB1
                  exact Fz.v
                · refine Ok.skip ?_
                  exact ⟨_, hB1, Wk.tab ⟨Le.refl _, Le.refl _, Le.refl _, Le.refl _, Le.refl _, Le.refl _, True.intro⟩ ⟨⟨_, rfl, .refl _⟩, True.intro⟩ rfl⟩
          intro v3 hB1
          unfold law29_SweepAll_J2 at hB1
          refine Ok.region Try.tok ?_
          obtain ⟨hc3, hB1⟩ := chk_some hB1
          refine (Or.inl ⟨hc3, ?_⟩)
          exact ⟨_, (Option.some.inj hB1).symm, Wk.tab ⟨Le.refl _, Le.refl _, Le.refl _, Le.refl _, Le.refl _, Le.refl _, True.intro⟩ ⟨⟨_, rfl, .refl _⟩, True.intro⟩ rfl⟩
        · refine Ok.exit ?_
          have hB1 := out_ret hB1 hy1
          exact ⟨_, hB1, Wk.tab ⟨Le.refl _, True.intro⟩ True.intro rfl⟩
      intro v2 h
      unfold law29_SweepAll_J1 at h
      refine Ok.seq ?_
      refine Ok.region Try.tok ?_
      refine Ok.wk (Wk.tab (L := [(6, (vb x1))]) (H' := []) ⟨Le.refl _, True.intro⟩ True.intro rfl) ?_
      refine Ok.ret ?_
      cases h
      exact Fz.v

end Go.Proofs
