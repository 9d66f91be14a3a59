/- The walks of this seat beside the plain programs, part 2. No condition. -/
import Derived.Test.YtopkpflbhhhdfaaXSweepLaterEn
import Derived.Test.YtopkpflbhhhdfaaXSweepLaterWk0
import Derived.Test.YtopkpflbhhhdfaaXSweepLaterWk1
namespace Go.Proofs
set_option linter.all false
open Go Go.Cat
variable [M : Mono]
set_option maxRecDepth 100000

theorem w_ref04_Right {p_d : api_Disk} {r : Bool} (h : ref04_Right p_d = some r) : Pure Try.prog 63 [(.a [(.s (List.map c_api_Page p_d.Synced)), (.s (List.map c_api_Page p_d.Loose)), (vb p_d.Down)])] (vb r) := by
  refine pure_of_ok (n := 66) (c := (Try.f63.body.getD .skip)) Try.tok Try.func63 (by kernel_rfl) rfl rfl (Nat.le_of_ble_eq_true rfl) ?_
  unfold ref04_Right at h
  refine Ok.wk (Wk.tab (L := [(0, (.a [(.s (List.map c_api_Page p_d.Synced)), (.s (List.map c_api_Page p_d.Loose)), (vb p_d.Down)]))]) (H' := []) ⟨Le.refl _, True.intro⟩ True.intro rfl) ?_
  refine Ok.seq ?_
  refine Ok.region Try.tok ?_
  refine Ok.wk (Wk.tab (L := [(1, (.b 1 0))]) (H' := [(1, .box [(.s (List.map c_api_Page p_d.Synced)), (.s (List.map c_api_Page p_d.Loose)), (vb p_d.Down)])]) ⟨Le.refl _, True.intro⟩ ⟨⟨_, rfl, .refl _⟩, True.intro⟩ rfl) ?_
  refine Ok.seqj (fun v1 => ⟨Cat.tab [(1, (.b 1 0))], [(1, .box [(.s (List.map c_api_Page p_d.Synced)), (.s (List.map c_api_Page p_d.Loose)), (vb p_d.Down)])]⟩) (fun v1 => ref04_Right_J1 p_d v1 = some r) ?_ ?_
  · refine Ok.seq ?_
    refine Ok.region Try.tok ?_
    refine Ok.wk (Wk.tab (L := [(1, (.b 1 0)), (3, (vi (0)))]) (H' := [(1, .box [(.s (List.map c_api_Page p_d.Synced)), (.s (List.map c_api_Page p_d.Loose)), (vb p_d.Down)])]) ⟨Le.refl _, Le.refl _, True.intro⟩ ⟨⟨_, rfl, .refl _⟩, True.intro⟩ rfl) ?_
    refine Ok.block ?_
    refine Ok.loop (fun (s1 : Int) => ⟨Cat.tab [(1, (.b 1 0)), (3, (vi s1))], [(1, .box [(.s (List.map c_api_Page p_d.Synced)), (.s (List.map c_api_Page p_d.Loose)), (vb p_d.Down)])]⟩) (ref04_Right_B1 p_d) (s0 := 0) h (Wk.tab ⟨Le.refl _, Le.refl _, True.intro⟩ ⟨⟨_, rfl, .refl _⟩, True.intro⟩ rfl) ?_
    intro s1 y1 hB1 hy1
    unfold ref04_Right_B1 at hB1
    refine Ok.seq ?_
    refine Ok.seq ?_
    refine Ok.region Try.tok ?_
    refine ⟨_, rfl, ⟨_, List.length_map _, fun _ => ?_⟩⟩
    refine Ok.wk (Wk.tab (L := [(1, (.b 1 0)), (3, (vi s1)), (11, (vb ((decide (s1 < (p_d.Synced.length : Int))))))]) (H' := [(1, .box [(.s (List.map c_api_Page p_d.Synced)), (.s (List.map c_api_Page p_d.Loose)), (vb p_d.Down)])]) ⟨Le.refl _, Le.refl _, Le.refl _, True.intro⟩ ⟨⟨_, rfl, .refl _⟩, True.intro⟩ rfl) ?_
    refine Ok.cond (d := 11) (b := (decide (s1 < (p_d.Synced.length : Int)))) rfl hB1 (fun hb hB1 => ?_) fun hb hB1 => ?_
    · refine Ok.skip ?_
      refine Ok.seq ?_
      refine Ok.block ?_
      refine Ok.seq ?_
      refine Ok.region Try.tok ?_
      obtain ⟨x1, hx1, hB1⟩ := bindS hB1
      obtain ⟨x2, hx2, hB1⟩ := bindS hB1
      refine ⟨_, rfl, ⟨_, idx_nat hx1, _, idx_row hx1, ⟨_, rfl, ?_⟩⟩⟩
      refine CallOk.call (w_ref04_Page hx2) (LeL.refl _) ?_
      refine Ok.wk (Wk.tab (L := [(1, (.b 1 0)), (3, (vi s1)), (4, (vb x2))]) (H' := [(1, .box [(.s (List.map c_api_Page p_d.Synced)), (.s (List.map c_api_Page p_d.Loose)), (vb p_d.Down)])]) ⟨Le.refl _, Le.refl _, Le.refl _, True.intro⟩ ⟨⟨_, rfl, .refl _⟩, True.intro⟩ rfl) ?_
      obtain ⟨v2, hv2, hB1⟩ := bindS hB1
      refine Ok.seqw ⟨Cat.tab [(1, (.b 1 0)), (3, (vi s1)), (41, (vb v2))], [(1, .box [(.s (List.map c_api_Page p_d.Synced)), (.s (List.map c_api_Page p_d.Loose)), (vb p_d.Down)])]⟩ ?_ ?_
      · refine Ok.draw (m := 22) (MD := ⟨[]⟩) (CH := ⟨[]⟩) Try.tok Try.mixed (by kernel_rfl) ?_
        refine ⟨_, rfl, ⟨_, rfl, ⟨_, rfl, ?_⟩⟩⟩
        obtain ⟨c2, hg1, hv2⟩ := bindS hv2
        refine Br.itf hg1 (fun hb hg1 => ?_) fun hb hg1 => ?_
        · cases hg1
          refine ⟨_, rfl, ?_⟩
          refine ⟨True.intro, ?_⟩
          cases hv2
          exact Wk.tab ⟨Le.refl _, Le.refl _, Le.refl _, True.intro⟩ ⟨⟨_, rfl, .refl _⟩, True.intro⟩ rfl
        · refine ⟨_, rfl, ⟨_, rfl, ⟨_, rfl, ?_⟩⟩⟩
          obtain ⟨c1, hg2, hg1⟩ := bindS hg1
          refine Br.ite hg2 (fun hb hg2 => ?_) fun hb hg2 => ?_
          · obtain ⟨x3, hx3, hg2⟩ := bindS hg2
            obtain ⟨hc1, hg2⟩ := chk_some hg2
            obtain ⟨x4, hx4, hg2⟩ := bindS hg2
            refine ⟨_, rfl, ⟨_, ⟨_, rfl, rfl⟩, ⟨_, rfl, ⟨_, ⟨_, idx_nat hx3, _, idx_row hx3, rfl⟩, ⟨_, rfl, ⟨_, ⟨_, rfl, rfl⟩, ⟨_, rfl, ⟨_, ⟨_, rfl, rfl⟩, ⟨_, rfl, ⟨_, (Or.inl ⟨hc1, rfl⟩), ⟨_, ⟨_, idx_nat hx4, _, idx_row hx4, rfl⟩, ⟨_, rfl, ⟨_, ⟨_, rfl, rfl⟩, ⟨_, rfl, ?_⟩⟩⟩⟩⟩⟩⟩⟩⟩⟩⟩⟩⟩⟩
            cases hg2
            refine ⟨_, rfl, ?_⟩
            cases hg1
            refine ⟨_, rfl, ?_⟩
            refine ⟨True.intro, ?_⟩
            cases hv2
            exact Wk.tab ⟨Le.refl _, Le.refl _, Le.refl _, True.intro⟩ ⟨⟨_, rfl, .refl _⟩, True.intro⟩ rfl
          · cases hg2
            refine ⟨_, rfl, ?_⟩
            cases hg1
            refine ⟨_, rfl, ?_⟩
            refine ⟨True.intro, ?_⟩
            cases hv2
            exact Wk.tab ⟨Le.refl _, Le.refl _, Le.refl _, True.intro⟩ ⟨⟨_, rfl, .refl _⟩, True.intro⟩ rfl
      refine Ok.cond (d := 41) (b := v2) rfl hB1 (fun hb hB1 => ?_) fun hb hB1 => ?_
      · refine Ok.seq ?_
        refine Ok.region Try.tok ?_
        refine Ok.wk (Wk.tab (L := [(2, (vb false))]) (H' := []) ⟨Le.refl _, True.intro⟩ True.intro rfl) ?_
        refine Ok.ret ?_
        have hB1 := out_ret hB1 hy1
        cases hB1
        exact Fz.v
      · refine Ok.skip ?_
        refine Ok.region Try.tok ?_
        obtain ⟨hc2, hB1⟩ := chk_some hB1
        refine (Or.inl ⟨hc2, ?_⟩)
        exact ⟨_, (Option.some.inj hB1).symm, Wk.tab ⟨Le.refl _, Le.refl _, True.intro⟩ ⟨⟨_, rfl, .refl _⟩, True.intro⟩ rfl⟩
    · refine Ok.exit ?_
      have hB1 := out_ret hB1 hy1
      exact ⟨_, hB1, Wk.tab ⟨Le.refl _, True.intro⟩ ⟨⟨_, rfl, .refl _⟩, True.intro⟩ rfl⟩
  intro v1 h
  unfold ref04_Right_J1 at h
  refine Ok.seqj (fun v3 => ⟨Cat.tab [(1, (.b 1 0))], [(1, .box [(.s (List.map c_api_Page p_d.Synced)), (.s (List.map c_api_Page p_d.Loose)), (vb p_d.Down)])]⟩) (fun v3 => ref04_Right_J2 p_d v3 = some r) ?_ ?_
  · refine Ok.seq ?_
    refine Ok.region Try.tok ?_
    refine Ok.wk (Wk.tab (L := [(1, (.b 1 0)), (5, (vi (0)))]) (H' := [(1, .box [(.s (List.map c_api_Page p_d.Synced)), (.s (List.map c_api_Page p_d.Loose)), (vb p_d.Down)])]) ⟨Le.refl _, Le.refl _, True.intro⟩ ⟨⟨_, rfl, .refl _⟩, True.intro⟩ rfl) ?_
    refine Ok.block ?_
    refine Ok.loop (fun (s2 : Int) => ⟨Cat.tab [(1, (.b 1 0)), (5, (vi s2))], [(1, .box [(.s (List.map c_api_Page p_d.Synced)), (.s (List.map c_api_Page p_d.Loose)), (vb p_d.Down)])]⟩) (ref04_Right_B2 p_d) (s0 := 0) h (Wk.tab ⟨Le.refl _, Le.refl _, True.intro⟩ ⟨⟨_, rfl, .refl _⟩, True.intro⟩ rfl) ?_
    intro s2 y2 hB2 hy2
    unfold ref04_Right_B2 at hB2
    refine Ok.seq ?_
    refine Ok.seq ?_
    refine Ok.region Try.tok ?_
    refine ⟨_, rfl, ⟨_, List.length_map _, fun _ => ?_⟩⟩
    refine Ok.wk (Wk.tab (L := [(1, (.b 1 0)), (5, (vi s2)), (46, (vb ((decide (s2 < (p_d.Loose.length : Int))))))]) (H' := [(1, .box [(.s (List.map c_api_Page p_d.Synced)), (.s (List.map c_api_Page p_d.Loose)), (vb p_d.Down)])]) ⟨Le.refl _, Le.refl _, Le.refl _, True.intro⟩ ⟨⟨_, rfl, .refl _⟩, True.intro⟩ rfl) ?_
    refine Ok.cond (d := 46) (b := (decide (s2 < (p_d.Loose.length : Int)))) rfl hB2 (fun hb hB2 => ?_) fun hb hB2 => ?_
    · refine Ok.skip ?_
      refine Ok.seq ?_
      refine Ok.block ?_
      refine Ok.seq ?_
      refine Ok.region Try.tok ?_
      obtain ⟨x5, hx5, hB2⟩ := bindS hB2
      obtain ⟨x6, hx6, hB2⟩ := bindS hB2
      refine ⟨_, rfl, ⟨_, idx_nat hx5, _, idx_row hx5, ⟨_, rfl, ?_⟩⟩⟩
      refine CallOk.call (w_ref04_Page hx6) (LeL.refl _) ?_
      refine Ok.wk (Wk.tab (L := [(1, (.b 1 0)), (5, (vi s2)), (6, (vb x6))]) (H' := [(1, .box [(.s (List.map c_api_Page p_d.Synced)), (.s (List.map c_api_Page p_d.Loose)), (vb p_d.Down)])]) ⟨Le.refl _, Le.refl _, Le.refl _, True.intro⟩ ⟨⟨_, rfl, .refl _⟩, True.intro⟩ rfl) ?_
      refine Ok.seq ?_
      refine Ok.region Try.tok ?_
      refine Ok.wk (Wk.tab (L := [(1, (.b 1 0)), (5, (vi s2)), (56, (vb ((!x6))))]) (H' := [(1, .box [(.s (List.map c_api_Page p_d.Synced)), (.s (List.map c_api_Page p_d.Loose)), (vb p_d.Down)])]) ⟨Le.refl _, Le.refl _, Le.refl _, True.intro⟩ ⟨⟨_, rfl, .refl _⟩, True.intro⟩ rfl) ?_
      refine Ok.cond (d := 56) (b := (!x6)) rfl hB2 (fun hb hB2 => ?_) fun hb hB2 => ?_
      · refine Ok.seq ?_
        refine Ok.region Try.tok ?_
        refine Ok.wk (Wk.tab (L := [(2, (vb false))]) (H' := []) ⟨Le.refl _, True.intro⟩ True.intro rfl) ?_
        refine Ok.ret ?_
        have hB2 := out_ret hB2 hy2
        cases hB2
        exact Fz.v
      · refine Ok.skip ?_
        refine Ok.region Try.tok ?_
        obtain ⟨hc3, hB2⟩ := chk_some hB2
        refine (Or.inl ⟨hc3, ?_⟩)
        exact ⟨_, (Option.some.inj hB2).symm, Wk.tab ⟨Le.refl _, Le.refl _, True.intro⟩ ⟨⟨_, rfl, .refl _⟩, True.intro⟩ rfl⟩
    · refine Ok.exit ?_
      have hB2 := out_ret hB2 hy2
      exact ⟨_, hB2, Wk.tab ⟨Le.refl _, True.intro⟩ ⟨⟨_, rfl, .refl _⟩, True.intro⟩ rfl⟩
  intro v3 h
  unfold ref04_Right_J2 at h
  obtain ⟨v4, hv4, h⟩ := bindS h
  refine Ok.seqw ⟨Cat.tab [(2, (vb v4))], []⟩ ?_ ?_
  · refine Ok.region Try.tok ?_
    refine ⟨_, rfl, ?_⟩
    obtain ⟨c3, hg3, hv4⟩ := bindS hv4
    refine Br.itf hg3 (fun hb hg3 => ?_) fun hb hg3 => ?_
    · cases hg3
      cases hv4
      exact Wk.tab ⟨Le.refl _, True.intro⟩ True.intro rfl
    · refine ⟨_, rfl, ⟨_, List.length_map _, fun _ => ?_⟩⟩
      cases hg3
      cases hv4
      exact Wk.tab ⟨Le.refl _, True.intro⟩ True.intro rfl
  refine Ok.ret ?_
  cases h
  exact Fz.v

theorem w_law25_Great {p_d : api_Disk} {r : Bool} (h : law25_Great p_d = some r) : Pure Try.prog 44 [(.a [(.s (List.map c_api_Page p_d.Synced)), (.s (List.map c_api_Page p_d.Loose)), (vb p_d.Down)])] (vb r) := by
  refine pure_of_ok (n := 48) (c := (Try.f44.body.getD .skip)) Try.tok Try.func44 (by kernel_rfl) rfl rfl (Nat.le_of_ble_eq_true rfl) ?_
  unfold law25_Great at h
  refine Ok.wk (Wk.tab (L := [(0, (.a [(.s (List.map c_api_Page p_d.Synced)), (.s (List.map c_api_Page p_d.Loose)), (vb p_d.Down)]))]) (H' := []) ⟨Le.refl _, True.intro⟩ True.intro rfl) ?_
  refine Ok.seq ?_
  refine Ok.region Try.tok ?_
  refine Ok.wk (Wk.tab (L := [(1, (.b 1 0))]) (H' := [(1, .box [(.s (List.map c_api_Page p_d.Synced)), (.s (List.map c_api_Page p_d.Loose)), (vb p_d.Down)])]) ⟨Le.refl _, True.intro⟩ ⟨⟨_, rfl, .refl _⟩, True.intro⟩ rfl) ?_
  refine Ok.seq ?_
  obtain ⟨v1, hv1, h⟩ := bindS h
  refine Ok.seqw ⟨Cat.tab [(1, (.b 1 0)), (14, (vb v1))], [(1, .box [(.s (List.map c_api_Page p_d.Synced)), (.s (List.map c_api_Page p_d.Loose)), (vb p_d.Down)])]⟩ ?_ ?_
  · refine Ok.region Try.tok ?_
    refine ⟨_, rfl, ⟨_, List.length_map _, fun _ => ?_⟩⟩
    obtain ⟨c1, hg1, hv1⟩ := bindS hv1
    refine Br.itf hg1 (fun hb hg1 => ?_) fun hb hg1 => ?_
    · cases hg1
      cases hv1
      exact Wk.tab ⟨Le.refl _, Le.refl _, True.intro⟩ ⟨⟨_, rfl, .refl _⟩, True.intro⟩ rfl
    · refine ⟨_, rfl, ⟨_, List.length_map _, fun _ => ?_⟩⟩
      cases hg1
      cases hv1
      exact Wk.tab ⟨Le.refl _, Le.refl _, True.intro⟩ ⟨⟨_, rfl, .refl _⟩, True.intro⟩ rfl
  refine Ok.cond (d := 14) (b := v1) rfl h (fun hb h => ?_) fun hb h => ?_
  · refine Ok.seq ?_
    refine Ok.region Try.tok ?_
    refine Ok.wk (Wk.tab (L := [(2, (vb true))]) (H' := []) ⟨Le.refl _, True.intro⟩ True.intro rfl) ?_
    refine Ok.ret ?_
    cases h
    exact Fz.v
  · refine Ok.skip ?_
    refine Ok.seqj (fun v2 => ⟨Cat.tab [(1, (.b 1 0))], [(1, .box [(.s (List.map c_api_Page p_d.Synced)), (.s (List.map c_api_Page p_d.Loose)), (vb p_d.Down)])]⟩) (fun v2 => law25_Great_J1 p_d v2 = some r) ?_ ?_
    · refine Ok.seq ?_
      refine Ok.region Try.tok ?_
      refine Ok.wk (Wk.tab (L := [(1, (.b 1 0)), (3, (vi (0)))]) (H' := [(1, .box [(.s (List.map c_api_Page p_d.Synced)), (.s (List.map c_api_Page p_d.Loose)), (vb p_d.Down)])]) ⟨Le.refl _, Le.refl _, True.intro⟩ ⟨⟨_, rfl, .refl _⟩, True.intro⟩ rfl) ?_
      refine Ok.block ?_
      refine Ok.loop (fun (s1 : Int) => ⟨Cat.tab [(1, (.b 1 0)), (3, (vi s1))], [(1, .box [(.s (List.map c_api_Page p_d.Synced)), (.s (List.map c_api_Page p_d.Loose)), (vb p_d.Down)])]⟩) (law25_Great_B1 p_d) (s0 := 0) h (Wk.tab ⟨Le.refl _, Le.refl _, True.intro⟩ ⟨⟨_, rfl, .refl _⟩, True.intro⟩ rfl) ?_
      intro s1 y1 hB1 hy1
      unfold law25_Great_B1 at hB1
      refine Ok.seq ?_
      refine Ok.seq ?_
      refine Ok.region Try.tok ?_
      refine ⟨_, rfl, ⟨_, List.length_map _, fun _ => ?_⟩⟩
      refine Ok.wk (Wk.tab (L := [(1, (.b 1 0)), (3, (vi s1)), (19, (vb ((decide (s1 < (p_d.Synced.length : Int))))))]) (H' := [(1, .box [(.s (List.map c_api_Page p_d.Synced)), (.s (List.map c_api_Page p_d.Loose)), (vb p_d.Down)])]) ⟨Le.refl _, Le.refl _, Le.refl _, True.intro⟩ ⟨⟨_, rfl, .refl _⟩, True.intro⟩ rfl) ?_
      refine Ok.cond (d := 19) (b := (decide (s1 < (p_d.Synced.length : Int)))) rfl hB1 (fun hb hB1 => ?_) fun hb hB1 => ?_
      · refine Ok.skip ?_
        refine Ok.seq ?_
        refine Ok.block ?_
        refine Ok.seq ?_
        refine Ok.region Try.tok ?_
        obtain ⟨x1, hx1, hB1⟩ := bindS hB1
        refine ⟨_, rfl, ⟨_, idx_nat hx1, _, idx_row hx1, ⟨_, rfl, ⟨_, List.length_map _, fun _ => ?_⟩⟩⟩⟩
        refine Ok.wk (Wk.tab (L := [(1, (.b 1 0)), (3, (vi s1)), (29, (vb ((decide ((x1.Data.length : Int) > 200)))))]) (H' := [(1, .box [(.s (List.map c_api_Page p_d.Synced)), (.s (List.map c_api_Page p_d.Loose)), (vb p_d.Down)])]) ⟨Le.refl _, Le.refl _, Le.refl _, True.intro⟩ ⟨⟨_, rfl, .refl _⟩, True.intro⟩ rfl) ?_
        refine Ok.cond (d := 29) (b := (decide ((x1.Data.length : Int) > 200))) rfl hB1 (fun hb hB1 => ?_) fun hb hB1 => ?_
        · refine Ok.seq ?_
          refine Ok.region Try.tok ?_
          refine Ok.wk (Wk.tab (L := [(2, (vb true))]) (H' := []) ⟨Le.refl _, True.intro⟩ True.intro rfl) ?_
          refine Ok.ret ?_
          have hB1 := out_ret hB1 hy1
          cases hB1
          exact Fz.v
        · refine Ok.skip ?_
          refine Ok.region Try.tok ?_
          obtain ⟨hc1, hB1⟩ := chk_some hB1
          refine (Or.inl ⟨hc1, ?_⟩)
          exact ⟨_, (Option.some.inj hB1).symm, Wk.tab ⟨Le.refl _, Le.refl _, True.intro⟩ ⟨⟨_, rfl, .refl _⟩, True.intro⟩ rfl⟩
      · refine Ok.exit ?_
        have hB1 := out_ret hB1 hy1
        exact ⟨_, hB1, Wk.tab ⟨Le.refl _, True.intro⟩ ⟨⟨_, rfl, .refl _⟩, True.intro⟩ rfl⟩
    intro v2 h
    unfold law25_Great_J1 at h
    refine Ok.seqj (fun v3 => ⟨Cat.tab [(1, (.b 1 0))], [(1, .box [(.s (List.map c_api_Page p_d.Synced)), (.s (List.map c_api_Page p_d.Loose)), (vb p_d.Down)])]⟩) (fun v3 => law25_Great_J2 p_d v3 = some r) ?_ ?_
    · refine Ok.seq ?_
      refine Ok.region Try.tok ?_
      refine Ok.wk (Wk.tab (L := [(1, (.b 1 0)), (4, (vi (0)))]) (H' := [(1, .box [(.s (List.map c_api_Page p_d.Synced)), (.s (List.map c_api_Page p_d.Loose)), (vb p_d.Down)])]) ⟨Le.refl _, Le.refl _, True.intro⟩ ⟨⟨_, rfl, .refl _⟩, True.intro⟩ rfl) ?_
      refine Ok.block ?_
      refine Ok.loop (fun (s2 : Int) => ⟨Cat.tab [(1, (.b 1 0)), (4, (vi s2))], [(1, .box [(.s (List.map c_api_Page p_d.Synced)), (.s (List.map c_api_Page p_d.Loose)), (vb p_d.Down)])]⟩) (law25_Great_B2 p_d) (s0 := 0) h (Wk.tab ⟨Le.refl _, Le.refl _, True.intro⟩ ⟨⟨_, rfl, .refl _⟩, True.intro⟩ rfl) ?_
      intro s2 y2 hB2 hy2
      unfold law25_Great_B2 at hB2
      refine Ok.seq ?_
      refine Ok.seq ?_
      refine Ok.region Try.tok ?_
      refine ⟨_, rfl, ⟨_, List.length_map _, fun _ => ?_⟩⟩
      refine Ok.wk (Wk.tab (L := [(1, (.b 1 0)), (4, (vi s2)), (34, (vb ((decide (s2 < (p_d.Loose.length : Int))))))]) (H' := [(1, .box [(.s (List.map c_api_Page p_d.Synced)), (.s (List.map c_api_Page p_d.Loose)), (vb p_d.Down)])]) ⟨Le.refl _, Le.refl _, Le.refl _, True.intro⟩ ⟨⟨_, rfl, .refl _⟩, True.intro⟩ rfl) ?_
      refine Ok.cond (d := 34) (b := (decide (s2 < (p_d.Loose.length : Int)))) rfl hB2 (fun hb hB2 => ?_) fun hb hB2 => ?_
      · refine Ok.skip ?_
        refine Ok.seq ?_
        refine Ok.block ?_
        refine Ok.seq ?_
        refine Ok.region Try.tok ?_
        obtain ⟨x2, hx2, hB2⟩ := bindS hB2
        refine ⟨_, rfl, ⟨_, idx_nat hx2, _, idx_row hx2, ⟨_, rfl, ⟨_, List.length_map _, fun _ => ?_⟩⟩⟩⟩
        refine Ok.wk (Wk.tab (L := [(1, (.b 1 0)), (4, (vi s2)), (44, (vb ((decide ((x2.Data.length : Int) > 200)))))]) (H' := [(1, .box [(.s (List.map c_api_Page p_d.Synced)), (.s (List.map c_api_Page p_d.Loose)), (vb p_d.Down)])]) ⟨Le.refl _, Le.refl _, Le.refl _, True.intro⟩ ⟨⟨_, rfl, .refl _⟩, True.intro⟩ rfl) ?_
        refine Ok.cond (d := 44) (b := (decide ((x2.Data.length : Int) > 200))) rfl hB2 (fun hb hB2 => ?_) fun hb hB2 => ?_
        · refine Ok.seq ?_
          refine Ok.region Try.tok ?_
          refine Ok.wk (Wk.tab (L := [(2, (vb true))]) (H' := []) ⟨Le.refl _, True.intro⟩ True.intro rfl) ?_
          refine Ok.ret ?_
          have hB2 := out_ret hB2 hy2
          cases hB2
          exact Fz.v
        · refine Ok.skip ?_
          refine Ok.region Try.tok ?_
          obtain ⟨hc2, hB2⟩ := chk_some hB2
          refine (Or.inl ⟨hc2, ?_⟩)
          exact ⟨_, (Option.some.inj hB2).symm, Wk.tab ⟨Le.refl _, Le.refl _, True.intro⟩ ⟨⟨_, rfl, .refl _⟩, True.intro⟩ rfl⟩
      · refine Ok.exit ?_
        have hB2 := out_ret hB2 hy2
        exact ⟨_, hB2, Wk.tab ⟨Le.refl _, True.intro⟩ ⟨⟨_, rfl, .refl _⟩, True.intro⟩ rfl⟩
    intro v3 h
    unfold law25_Great_J2 at h
    refine Ok.seq ?_
    refine Ok.region Try.tok ?_
    obtain ⟨x3, hx3, h⟩ := bindS h
    refine ⟨_, rfl, ?_⟩
    refine CallOk.call (w_ref04_Right hx3) (LeL.refl _) ?_
    refine Ok.wk (Wk.tab (L := [(2, (vb ((!x3))))]) (H' := []) ⟨Le.refl _, True.intro⟩ True.intro rfl) ?_
    refine Ok.ret ?_
    cases h
    exact Fz.v

theorem w_law27_Great {p_disks : List api_Disk} {p_l : List api_Chain} {r : Bool} (h : law27_Great p_disks p_l = some r) : Pure Try.prog 23 [(.s (List.map c_api_Disk p_disks)), (.s (List.map c_api_Chain p_l))] (vb r) := by
  refine pure_of_ok (n := 39) (c := (Try.f23.body.getD .skip)) Try.tok Try.func23 (by kernel_rfl) rfl rfl (Nat.le_of_ble_eq_true rfl) ?_
  unfold law27_Great at h
  refine Ok.wk (Wk.tab (L := [(0, (.s (List.map c_api_Disk p_disks))), (1, (.s (List.map c_api_Chain p_l)))]) (H' := []) ⟨Le.refl _, Le.refl _, True.intro⟩ True.intro rfl) ?_
  refine Ok.seq ?_
  refine Ok.region Try.tok ?_
  refine Ok.wk (Wk.tab (L := [(0, (.s (List.map c_api_Disk p_disks))), (1, (.s (List.map c_api_Chain p_l)))]) (H' := []) ⟨Le.refl _, Le.refl _, True.intro⟩ True.intro rfl) ?_
  refine Ok.seq ?_
  obtain ⟨v1, hv1, h⟩ := bindS h
  refine Ok.seqw ⟨Cat.tab [(0, (.s (List.map c_api_Disk p_disks))), (1, (.s (List.map c_api_Chain p_l))), (14, (vb v1))], []⟩ ?_ ?_
  · refine Ok.region Try.tok ?_
    refine ⟨_, List.length_map _, fun _ => ?_⟩
    obtain ⟨c1, hg1, hv1⟩ := bindS hv1
    refine Br.itf hg1 (fun hb hg1 => ?_) fun hb hg1 => ?_
    · cases hg1
      cases hv1
      exact Wk.tab ⟨Le.refl _, Le.refl _, Le.refl _, True.intro⟩ True.intro rfl
    · refine ⟨_, List.length_map _, fun _ => ?_⟩
      cases hg1
      cases hv1
      exact Wk.tab ⟨Le.refl _, Le.refl _, Le.refl _, True.intro⟩ True.intro rfl
  refine Ok.cond (d := 14) (b := v1) rfl h (fun hb h => ?_) fun hb h => ?_
  · refine Ok.seq ?_
    refine Ok.region Try.tok ?_
    refine Ok.wk (Wk.tab (L := [(4, (vb true))]) (H' := []) ⟨Le.refl _, True.intro⟩ True.intro rfl) ?_
    refine Ok.ret ?_
    cases h
    exact Fz.v
  · refine Ok.skip ?_
    refine Ok.seqj (fun v2 => ⟨Cat.tab [(1, (.s (List.map c_api_Chain p_l)))], []⟩) (fun v2 => law27_Great_J1 p_l v2 = some r) ?_ ?_
    · refine Ok.seq ?_
      refine Ok.region Try.tok ?_
      refine Ok.wk (Wk.tab (L := [(0, (.s (List.map c_api_Disk p_disks))), (1, (.s (List.map c_api_Chain p_l))), (5, (vi (0)))]) (H' := []) ⟨Le.refl _, Le.refl _, Le.refl _, True.intro⟩ True.intro rfl) ?_
      refine Ok.block ?_
      refine Ok.loop (fun (s1 : Int) => ⟨Cat.tab [(0, (.s (List.map c_api_Disk p_disks))), (1, (.s (List.map c_api_Chain p_l))), (5, (vi s1))], []⟩) (law27_Great_B1 p_disks p_l) (s0 := 0) h (Wk.tab ⟨Le.refl _, Le.refl _, Le.refl _, True.intro⟩ True.intro rfl) ?_
      intro s1 y1 hB1 hy1
      unfold law27_Great_B1 at hB1
      refine Ok.seq ?_
      refine Ok.seq ?_
      refine Ok.region Try.tok ?_
      refine ⟨_, List.length_map _, fun _ => ?_⟩
      refine Ok.wk (Wk.tab (L := [(0, (.s (List.map c_api_Disk p_disks))), (1, (.s (List.map c_api_Chain p_l))), (5, (vi s1)), (18, (vb ((decide (s1 < (p_disks.length : Int))))))]) (H' := []) ⟨Le.refl _, Le.refl _, Le.refl _, Le.refl _, True.intro⟩ True.intro rfl) ?_
      refine Ok.cond (d := 18) (b := (decide (s1 < (p_disks.length : Int)))) rfl hB1 (fun hb hB1 => ?_) fun hb hB1 => ?_
      · refine Ok.skip ?_
        refine Ok.seq ?_
        refine Ok.block ?_
        refine Ok.seq ?_
        refine Ok.region Try.tok ?_
        obtain ⟨x1, hx1, hB1⟩ := bindS hB1
        obtain ⟨x2, hx2, hB1⟩ := bindS hB1
        refine ⟨_, idx_nat hx1, _, idx_row hx1, ⟨_, rfl, ?_⟩⟩
        refine CallOk.call (w_law25_Great hx2) (LeL.refl _) ?_
        refine Ok.wk (Wk.tab (L := [(0, (.s (List.map c_api_Disk p_disks))), (1, (.s (List.map c_api_Chain p_l))), (5, (vi s1)), (25, (vb x2))]) (H' := []) ⟨Le.refl _, Le.refl _, Le.refl _, Le.refl _, True.intro⟩ True.intro rfl) ?_
        refine Ok.cond (d := 25) (b := x2) rfl hB1 (fun hb hB1 => ?_) fun hb hB1 => ?_
        · refine Ok.seq ?_
          refine Ok.region Try.tok ?_
          refine Ok.wk (Wk.tab (L := [(4, (vb true))]) (H' := []) ⟨Le.refl _, True.intro⟩ True.intro rfl) ?_
          refine Ok.ret ?_
          have hB1 := out_ret hB1 hy1
          cases hB1
          exact Fz.v
        · refine Ok.skip ?_
          refine Ok.region Try.tok ?_
          obtain ⟨hc1, hB1⟩ := chk_some hB1
          refine (Or.inl ⟨hc1, ?_⟩)
          exact ⟨_, (Option.some.inj hB1).symm, Wk.tab ⟨Le.refl _, Le.refl _, Le.refl _, True.intro⟩ True.intro rfl⟩
      · refine Ok.exit ?_
        have hB1 := out_ret hB1 hy1
        exact ⟨_, hB1, Wk.tab ⟨Le.refl _, True.intro⟩ True.intro rfl⟩
    intro v2 h
    unfold law27_Great_J1 at h
    refine Ok.seqj (fun v3 => ⟨Cat.tab [], []⟩) (fun v3 => law27_Great_J2 v3 = some r) ?_ ?_
    · refine Ok.seq ?_
      refine Ok.region Try.tok ?_
      refine Ok.wk (Wk.tab (L := [(1, (.s (List.map c_api_Chain p_l))), (6, (vi (0)))]) (H' := []) ⟨Le.refl _, Le.refl _, True.intro⟩ True.intro rfl) ?_
      refine Ok.block ?_
      refine Ok.loop (fun (s2 : Int) => ⟨Cat.tab [(1, (.s (List.map c_api_Chain p_l))), (6, (vi s2))], []⟩) (law27_Great_B2 p_l) (s0 := 0) h (Wk.tab ⟨Le.refl _, Le.refl _, True.intro⟩ True.intro rfl) ?_
      intro s2 y2 hB2 hy2
      unfold law27_Great_B2 at hB2
      refine Ok.seq ?_
      refine Ok.seq ?_
      refine Ok.region Try.tok ?_
      refine ⟨_, List.length_map _, fun _ => ?_⟩
      refine Ok.wk (Wk.tab (L := [(1, (.s (List.map c_api_Chain p_l))), (6, (vi s2)), (29, (vb ((decide (s2 < (p_l.length : Int))))))]) (H' := []) ⟨Le.refl _, Le.refl _, Le.refl _, True.intro⟩ True.intro rfl) ?_
      refine Ok.cond (d := 29) (b := (decide (s2 < (p_l.length : Int)))) rfl hB2 (fun hb hB2 => ?_) fun hb hB2 => ?_
      · refine Ok.skip ?_
        refine Ok.seq ?_
        refine Ok.block ?_
        refine Ok.seq ?_
        refine Ok.region Try.tok ?_
        obtain ⟨x3, hx3, hB2⟩ := bindS hB2
        refine ⟨_, idx_nat hx3, _, idx_row hx3, ⟨_, rfl, ⟨_, List.length_map _, fun _ => ?_⟩⟩⟩
        refine Ok.wk (Wk.tab (L := [(1, (.s (List.map c_api_Chain p_l))), (6, (vi s2)), (38, (vb ((decide ((x3.Servers.length : Int) > 12)))))]) (H' := []) ⟨Le.refl _, Le.refl _, Le.refl _, True.intro⟩ True.intro rfl) ?_
        refine Ok.cond (d := 38) (b := (decide ((x3.Servers.length : Int) > 12))) rfl hB2 (fun hb hB2 => ?_) fun hb hB2 => ?_
        · refine Ok.seq ?_
          refine Ok.region Try.tok ?_
          refine Ok.wk (Wk.tab (L := [(4, (vb true))]) (H' := []) ⟨Le.refl _, True.intro⟩ True.intro rfl) ?_
          refine Ok.ret ?_
          have hB2 := out_ret hB2 hy2
          cases hB2
          exact Fz.v
        · refine Ok.skip ?_
          refine Ok.region Try.tok ?_
          obtain ⟨hc2, hB2⟩ := chk_some hB2
          refine (Or.inl ⟨hc2, ?_⟩)
          exact ⟨_, (Option.some.inj hB2).symm, Wk.tab ⟨Le.refl _, Le.refl _, True.intro⟩ True.intro rfl⟩
      · refine Ok.exit ?_
        have hB2 := out_ret hB2 hy2
        exact ⟨_, hB2, Wk.tab True.intro True.intro rfl⟩
    intro v3 h
    unfold law27_Great_J2 at h
    refine Ok.seq ?_
    refine Ok.region Try.tok ?_
    refine Ok.wk (Wk.tab (L := [(4, (vb false))]) (H' := []) ⟨Le.refl _, True.intro⟩ True.intro rfl) ?_
    refine Ok.ret ?_
    cases h
    exact Fz.v

theorem w_law29_Great {p_x : law29_Set} {r : Bool} (h : law29_Great p_x = some r) : Pure Try.prog 8 [(.a [(.s (List.map c_api_Named p_x.Named)), (.s (List.map c_api_Room p_x.Rooms)), (.s (List.map c_api_Lease p_x.Leases)), (.s (List.map c_api_Disk p_x.Disks))])] (vb r) := by
  refine pure_of_ok (n := 24) (c := (Try.f8.body.getD .skip)) Try.tok Try.func8 (by kernel_rfl) rfl rfl (Nat.le_of_ble_eq_true rfl) ?_
  unfold law29_Great at h
  refine Ok.wk (Wk.tab (L := [(0, (.a [(.s (List.map c_api_Named p_x.Named)), (.s (List.map c_api_Room p_x.Rooms)), (.s (List.map c_api_Lease p_x.Leases)), (.s (List.map c_api_Disk p_x.Disks))]))]) (H' := []) ⟨Le.refl _, True.intro⟩ True.intro rfl) ?_
  refine Ok.seq ?_
  refine Ok.region Try.tok ?_
  refine Ok.wk (Wk.tab (L := [(1, (.b 1 0))]) (H' := [(1, .box [(.s (List.map c_api_Named p_x.Named)), (.s (List.map c_api_Room p_x.Rooms)), (.s (List.map c_api_Lease p_x.Leases)), (.s (List.map c_api_Disk p_x.Disks))])]) ⟨Le.refl _, True.intro⟩ ⟨⟨_, rfl, .refl _⟩, True.intro⟩ rfl) ?_
  obtain ⟨v1, hv1, h⟩ := bindS h
  refine Ok.seqw ⟨Cat.tab [(2, (vb v1))], []⟩ ?_ ?_
  · refine Ok.region Try.tok ?_
    refine ⟨_, rfl, ⟨_, List.length_map _, fun _ => ?_⟩⟩
    obtain ⟨c1, hg1, hv1⟩ := bindS hv1
    refine Br.itf hg1 (fun hb hg1 => ?_) fun hb hg1 => ?_
    · cases hg1
      obtain ⟨c2, hg2, hv1⟩ := bindS hv1
      replace hg2 := iteT hg2
      cases hg2
      obtain ⟨c3, hg3, hv1⟩ := bindS hv1
      replace hg3 := iteT hg3
      cases hg3
      cases hv1
      exact Wk.tab ⟨Le.refl _, True.intro⟩ True.intro rfl
    · refine ⟨_, rfl, ⟨_, List.length_map _, fun _ => ?_⟩⟩
      cases hg1
      obtain ⟨c2, hg4, hv1⟩ := bindS hv1
      refine Br.itf hg4 (fun hb hg4 => ?_) fun hb hg4 => ?_
      · cases hg4
        obtain ⟨c3, hg5, hv1⟩ := bindS hv1
        replace hg5 := iteT hg5
        cases hg5
        cases hv1
        exact Wk.tab ⟨Le.refl _, True.intro⟩ True.intro rfl
      · refine ⟨_, rfl, ⟨_, List.length_map _, fun _ => ?_⟩⟩
        cases hg4
        obtain ⟨c3, hg6, hv1⟩ := bindS hv1
        refine Br.itf hg6 (fun hb hg6 => ?_) fun hb hg6 => ?_
        · cases hg6
          cases hv1
          exact Wk.tab ⟨Le.refl _, True.intro⟩ True.intro rfl
        · obtain ⟨x1, hx1, hg6⟩ := bindS hg6
          refine ⟨_, rfl, ?_⟩
          refine CallOk.call (w_law27_Great hx1) (.cons (Le.refl _) (.cons (Le.nil) (.nil))) ?_
          cases hg6
          cases hv1
          exact Wk.tab ⟨Le.refl _, True.intro⟩ True.intro rfl
  refine Ok.ret ?_
  cases h
  exact Fz.v

theorem w_ref29_Has {p_l : List Int} {p_x : Int} {r : Bool} (h : ref29_Has p_l p_x = some r) : Pure Try.prog 11 [(.s (List.map Go.Cat.encI p_l)), (vi p_x)] (vb r) := by
  refine pure_of_ok (n := 18) (c := (Try.f11.body.getD .skip)) Try.tok Try.func11 (by kernel_rfl) rfl rfl (Nat.le_of_ble_eq_true rfl) ?_
  unfold ref29_Has at h
  refine Ok.wk (Wk.tab (L := [(0, (.s (List.map Go.Cat.encI p_l))), (1, (vi p_x))]) (H' := []) ⟨Le.refl _, Le.refl _, True.intro⟩ True.intro rfl) ?_
  refine Ok.seq ?_
  refine Ok.region Try.tok ?_
  refine Ok.wk (Wk.tab (L := [(0, (.s (List.map Go.Cat.encI p_l))), (1, (vi p_x))]) (H' := []) ⟨Le.refl _, Le.refl _, True.intro⟩ True.intro rfl) ?_
  refine Ok.seqj (fun v1 => ⟨Cat.tab [], []⟩) (fun v1 => ref29_Has_J1 v1 = some r) ?_ ?_
  · refine Ok.seq ?_
    refine Ok.region Try.tok ?_
    refine Ok.wk (Wk.tab (L := [(0, (.s (List.map Go.Cat.encI p_l))), (1, (vi p_x)), (5, (vi (0)))]) (H' := []) ⟨Le.refl _, Le.refl _, Le.refl _, True.intro⟩ True.intro rfl) ?_
    refine Ok.block ?_
    refine Ok.loop (fun (s1 : Int) => ⟨Cat.tab [(0, (.s (List.map Go.Cat.encI p_l))), (1, (vi p_x)), (5, (vi s1))], []⟩) (ref29_Has_B1 p_l p_x) (s0 := 0) h (Wk.tab ⟨Le.refl _, Le.refl _, Le.refl _, True.intro⟩ True.intro rfl) ?_
    intro s1 y1 hB1 hy1
    unfold ref29_Has_B1 at hB1
    refine Ok.seq ?_
    refine Ok.seq ?_
    refine Ok.region Try.tok ?_
    refine ⟨_, List.length_map _, fun _ => ?_⟩
    refine Ok.wk (Wk.tab (L := [(0, (.s (List.map Go.Cat.encI p_l))), (1, (vi p_x)), (5, (vi s1)), (9, (vb ((decide (s1 < (p_l.length : Int))))))]) (H' := []) ⟨Le.refl _, Le.refl _, Le.refl _, Le.refl _, True.intro⟩ True.intro rfl) ?_
    refine Ok.cond (d := 9) (b := (decide (s1 < (p_l.length : Int)))) rfl hB1 (fun hb hB1 => ?_) fun hb hB1 => ?_
    · refine Ok.skip ?_
      refine Ok.seq ?_
      refine Ok.block ?_
      refine Ok.seq ?_
      refine Ok.region Try.tok ?_
      obtain ⟨x1, hx1, hB1⟩ := bindS hB1
      refine ⟨_, idx_nat hx1, _, idx_row hx1, ⟨_, rfl, ?_⟩⟩
      refine Ok.wk (Wk.tab (L := [(0, (.s (List.map Go.Cat.encI p_l))), (1, (vi p_x)), (5, (vi s1)), (17, (vb ((x1 == p_x))))]) (H' := []) ⟨Le.refl _, Le.refl _, Le.refl _, Le.refl _, True.intro⟩ True.intro rfl) ?_
      refine Ok.cond (d := 17) (b := (x1 == p_x)) rfl hB1 (fun hb hB1 => ?_) fun hb hB1 => ?_
      · refine Ok.seq ?_
        refine Ok.region Try.tok ?_
        refine Ok.wk (Wk.tab (L := [(4, (vb true))]) (H' := []) ⟨Le.refl _, True.intro⟩ True.intro rfl) ?_
        refine Ok.ret ?_
        have hB1 := out_ret hB1 hy1
        cases hB1
        exact Fz.v
      · refine Ok.skip ?_
        refine Ok.region Try.tok ?_
        obtain ⟨hc1, hB1⟩ := chk_some hB1
        refine (Or.inl ⟨hc1, ?_⟩)
        exact ⟨_, (Option.some.inj hB1).symm, Wk.tab ⟨Le.refl _, Le.refl _, Le.refl _, True.intro⟩ True.intro rfl⟩
    · refine Ok.exit ?_
      have hB1 := out_ret hB1 hy1
      exact ⟨_, hB1, Wk.tab True.intro True.intro rfl⟩
  intro v1 h
  unfold ref29_Has_J1 at h
  refine Ok.seq ?_
  refine Ok.region Try.tok ?_
  refine Ok.wk (Wk.tab (L := [(4, (vb false))]) (H' := []) ⟨Le.refl _, True.intro⟩ True.intro rfl) ?_
  refine Ok.ret ?_
  cases h
  exact Fz.v

theorem w_law29_SweepLater [Off] {p_x : law29_Set} {p_now : Int} {p_later : Int} {p_more : law29_Set} {r : Bool} (h : law29_SweepLater p_x p_now p_later p_more = some r) : Pure Try.prog 3 [(.a [(.s (List.map c_api_Named p_x.Named)), (.s (List.map c_api_Room p_x.Rooms)), (.s (List.map c_api_Lease p_x.Leases)), (.s (List.map c_api_Disk p_x.Disks))]), (vi p_now), (.v (.int .u16 p_later)), (.a [(.s (List.map c_api_Named p_more.Named)), (.s (List.map c_api_Room p_more.Rooms)), (.s (List.map c_api_Lease p_more.Leases)), (.s (List.map c_api_Disk p_more.Disks))])] (vb r) := by
  refine pure_of_ok (n := 174) (c := (Try.f3.body.getD .skip)) Try.tok Try.func3 (by kernel_rfl) rfl rfl (Nat.le_of_ble_eq_true rfl) ?_
  unfold law29_SweepLater at h
  refine Ok.wk (Wk.tab (L := [(0, (.a [(.s (List.map c_api_Named p_x.Named)), (.s (List.map c_api_Room p_x.Rooms)), (.s (List.map c_api_Lease p_x.Leases)), (.s (List.map c_api_Disk p_x.Disks))])), (1, (vi p_now)), (2, (.v (.int .u16 p_later))), (3, (.a [(.s (List.map c_api_Named p_more.Named)), (.s (List.map c_api_Room p_more.Rooms)), (.s (List.map c_api_Lease p_more.Leases)), (.s (List.map c_api_Disk p_more.Disks))]))]) (H' := []) ⟨Le.refl _, Le.refl _, Le.refl _, Le.refl _, True.intro⟩ True.intro rfl) ?_
  refine Ok.seq ?_
  refine Ok.region Try.tok ?_
  refine Ok.wk (Wk.tab (L := [(1, (vi p_now)), (2, (.v (.int .u16 p_later))), (4, (.b 4 0)), (7, (.b 7 0))]) (H' := [(4, .box [(.s (List.map c_api_Named p_x.Named)), (.s (List.map c_api_Room p_x.Rooms)), (.s (List.map c_api_Lease p_x.Leases)), (.s (List.map c_api_Disk p_x.Disks))]), (7, .box [(.s (List.map c_api_Named p_more.Named)), (.s (List.map c_api_Room p_more.Rooms)), (.s (List.map c_api_Lease p_more.Leases)), (.s (List.map c_api_Disk p_more.Disks))])]) ⟨Le.refl _, Le.refl _, Le.refl _, Le.refl _, True.intro⟩ ⟨⟨_, rfl, .refl _⟩, ⟨_, rfl, .refl _⟩, True.intro⟩ rfl) ?_
  refine Ok.seq ?_
  refine Ok.region Try.tok ?_
  obtain ⟨x1, hx1, h⟩ := bindS h
  refine CallOk.call (w_law29_head hx1) (LeL.refl _) ?_
  refine Ok.wk (Wk.tab (L := [(1, (vi p_now)), (2, (.v (.int .u16 p_later))), (4, (.b 4 0)), (7, (.b 7 0)), (9, (vb x1))]) (H' := [(4, .box [(.s (List.map c_api_Named p_x.Named)), (.s (List.map c_api_Room p_x.Rooms)), (.s (List.map c_api_Lease p_x.Leases)), (.s (List.map c_api_Disk p_x.Disks))]), (7, .box [(.s (List.map c_api_Named p_more.Named)), (.s (List.map c_api_Room p_more.Rooms)), (.s (List.map c_api_Lease p_more.Leases)), (.s (List.map c_api_Disk p_more.Disks))])]) ⟨Le.refl _, Le.refl _, Le.refl _, Le.refl _, Le.refl _, True.intro⟩ ⟨⟨_, rfl, .refl _⟩, ⟨_, rfl, .refl _⟩, True.intro⟩ rfl) ?_
  refine Ok.seq ?_
  obtain ⟨v1, hv1, h⟩ := bindS h
  refine Ok.seqw ⟨Cat.tab [(1, (vi p_now)), (2, (.v (.int .u16 p_later))), (4, (.b 4 0)), (7, (.b 7 0)), (9, (vb x1)), (33, (vb v1))], [(4, .box [(.s (List.map c_api_Named p_x.Named)), (.s (List.map c_api_Room p_x.Rooms)), (.s (List.map c_api_Lease p_x.Leases)), (.s (List.map c_api_Disk p_x.Disks))]), (7, .box [(.s (List.map c_api_Named p_more.Named)), (.s (List.map c_api_Room p_more.Rooms)), (.s (List.map c_api_Lease p_more.Leases)), (.s (List.map c_api_Disk p_more.Disks))])]⟩ ?_ ?_
  · refine Ok.region Try.tok ?_
    obtain ⟨x2, hx2, hv1⟩ := bindS hv1
    refine ⟨_, rfl, ?_⟩
    refine CallOk.call (w_law29_Great hx2) (LeL.refl _) ?_
    obtain ⟨c1, hg1, hv1⟩ := bindS hv1
    refine Br.itf hg1 (fun hb hg1 => ?_) fun hb hg1 => ?_
    · cases hg1
      obtain ⟨c2, hg2, hv1⟩ := bindS hv1
      replace hg2 := iteT hg2
      cases hg2
      obtain ⟨c3, hg3, hv1⟩ := bindS hv1
      replace hg3 := iteT hg3
      cases hg3
      cases hv1
      exact Wk.tab ⟨Le.refl _, Le.refl _, Le.refl _, Le.refl _, Le.refl _, Le.refl _, True.intro⟩ ⟨⟨_, rfl, .refl _⟩, ⟨_, rfl, .refl _⟩, True.intro⟩ rfl
    · obtain ⟨x3, hx3, hg1⟩ := bindS hg1
      refine ⟨_, rfl, ?_⟩
      refine CallOk.call (w_law29_Great hx3) (LeL.refl _) ?_
      cases hg1
      obtain ⟨c2, hg4, hv1⟩ := bindS hv1
      refine Br.itf hg4 (fun hb hg4 => ?_) fun hb hg4 => ?_
      · cases hg4
        obtain ⟨c3, hg5, hv1⟩ := bindS hv1
        replace hg5 := iteT hg5
        cases hg5
        cases hv1
        exact Wk.tab ⟨Le.refl _, Le.refl _, Le.refl _, Le.refl _, Le.refl _, Le.refl _, True.intro⟩ ⟨⟨_, rfl, .refl _⟩, ⟨_, rfl, .refl _⟩, True.intro⟩ rfl
      · cases hg4
        obtain ⟨c3, hg6, hv1⟩ := bindS hv1
        refine Br.itf hg6 (fun hb hg6 => ?_) fun hb hg6 => ?_
        · cases hg6
          cases hv1
          exact Wk.tab ⟨Le.refl _, Le.refl _, Le.refl _, Le.refl _, Le.refl _, Le.refl _, True.intro⟩ ⟨⟨_, rfl, .refl _⟩, ⟨_, rfl, .refl _⟩, True.intro⟩ rfl
        · cases hg6
          cases hv1
          exact Wk.tab ⟨Le.refl _, Le.refl _, Le.refl _, Le.refl _, Le.refl _, Le.refl _, True.intro⟩ ⟨⟨_, rfl, .refl _⟩, ⟨_, rfl, .refl _⟩, True.intro⟩ rfl
  refine Ok.cond (d := 33) (b := v1) rfl h (fun hb h => ?_) fun hb h => ?_
  · refine Ok.seq ?_
    refine Ok.region Try.tok ?_
    refine Ok.wk (Wk.tab (L := [(8, (vb x1))]) (H' := []) ⟨Le.refl _, True.intro⟩ True.intro rfl) ?_
    refine Ok.ret ?_
    cases h
    exact Fz.v
  · refine Ok.skip ?_
    refine Ok.seq ?_
    refine Ok.region Try.tok ?_
    obtain ⟨x4, hx4, h⟩ := bindS h
    refine ⟨_, rfl, ⟨_, rfl, ⟨_, rfl, ⟨_, rfl, ?_⟩⟩⟩⟩
    refine CallOk.call (w_sweep_Gone hx4) (LeL.refl _) ?_
    refine Ok.wk (Wk.tab (L := [(1, (vi p_now)), (2, (.v (.int .u16 p_later))), (4, (.b 4 0)), (7, (.b 7 0)), (9, (vb x1)), (10, (.s (List.map Go.Cat.encI x4)))]) (H' := [(4, .box [(.s (List.map c_api_Named p_x.Named)), (.s (List.map c_api_Room p_x.Rooms)), (.s (List.map c_api_Lease p_x.Leases)), (.s (List.map c_api_Disk p_x.Disks))]), (7, .box [(.s (List.map c_api_Named p_more.Named)), (.s (List.map c_api_Room p_more.Rooms)), (.s (List.map c_api_Lease p_more.Leases)), (.s (List.map c_api_Disk p_more.Disks))])]) ⟨Le.refl _, Le.refl _, Le.refl _, Le.refl _, Le.refl _, Le.refl _, True.intro⟩ ⟨⟨_, rfl, .refl _⟩, ⟨_, rfl, .refl _⟩, True.intro⟩ rfl) ?_
    refine Ok.seq ?_
    refine Ok.region Try.tok ?_
    obtain ⟨hc1, h⟩ := chk_some h
    obtain ⟨x5, hx5, h⟩ := bindS h
    refine ⟨_, rfl, ⟨_, rfl, ⟨_, rfl, ⟨_, rfl, (Or.inl ⟨hc1, ⟨_, rfl, ?_⟩⟩)⟩⟩⟩⟩
    refine CallOk.call (w_sweep_Gone hx5) (LeL.refl _) ?_
    refine Ok.wk (Wk.tab (L := [(1, (vi p_now)), (4, (.b 4 0)), (7, (.b 7 0)), (9, (vb x1)), (10, (.s (List.map Go.Cat.encI x4))), (11, (.s (List.map Go.Cat.encI x5)))]) (H' := [(4, .box [(.s (List.map c_api_Named p_x.Named)), (.s (List.map c_api_Room p_x.Rooms)), (.s (List.map c_api_Lease p_x.Leases)), (.s (List.map c_api_Disk p_x.Disks))]), (7, .box [(.s (List.map c_api_Named p_more.Named)), (.s (List.map c_api_Room p_more.Rooms)), (.s (List.map c_api_Lease p_more.Leases)), (.s (List.map c_api_Disk p_more.Disks))])]) ⟨Le.refl _, Le.refl _, Le.refl _, Le.refl _, Le.refl _, Le.refl _, True.intro⟩ ⟨⟨_, rfl, .refl _⟩, ⟨_, rfl, .refl _⟩, True.intro⟩ rfl) ?_
    refine Ok.seq ?_
    refine Ok.chain (chain := [(3, [4, 5, 7, 8, 9, 11, 12, 14, 15, 16, 18, 19, 21, 22, 23]), (6, [7, 8, 9, 11, 12, 14, 15, 16, 18, 19, 21, 22, 23]), (10, [11, 12, 14, 15, 16, 18, 19, 21, 22, 23]), (13, [14, 15, 16, 18, 19, 21, 22, 23]), (17, [18, 19, 21, 22, 23]), (20, [21, 22, 23]), (24, []), (25, [])]) Try.tok Try.mixed (by kernel_rfl) ?_
    obtain ⟨hc2, h⟩ := chk_some h
    obtain ⟨hc3, h⟩ := chk_some h
    obtain ⟨hc4, h⟩ := chk_some h
    obtain ⟨hc5, h⟩ := chk_some h
    obtain ⟨hc6, h⟩ := chk_some h
    obtain ⟨hc7, h⟩ := chk_some h
    obtain ⟨x6, hx6, h⟩ := bindS h
    refine ⟨_, rfl, ⟨_, rfl, ⟨_, ⟨_, rfl, rfl⟩, ⟨_, rfl, ⟨_, ⟨_, rfl, rfl⟩, ⟨_, rfl, ⟨_, rfl, ⟨_, ⟨_, rfl, rfl⟩, ⟨_, rfl, ⟨_, ⟨_, rfl, rfl⟩, ⟨_, rfl, ⟨_, rfl, ⟨_, ⟨_, rfl, rfl⟩, ⟨_, rfl, ⟨_, ⟨_, rfl, rfl⟩, ⟨_, rfl, ⟨_, rfl, ⟨_, ⟨_, rfl, rfl⟩, ⟨rowsLen_map (f := c_api_Named) (n := 4) (fun _ => rfl) p_x.Named, app_b1 (f := c_api_Named) (l' := p_x.Named) hc2, _, rfl, ⟨⟨⟨_, rfl, rfl⟩, ⟨_, rfl, ⟨_, rfl, rfl⟩⟩, ⟨_, rfl, rfl⟩, ⟨_, rfl, rfl⟩, ⟨_, rfl, ⟨_, rfl, rfl⟩⟩, ⟨_, rfl, rfl⟩, ⟨_, rfl, ⟨_, rfl, rfl⟩⟩, ⟨_, rfl, rfl⟩, ⟨_, rfl, rfl⟩, ⟨_, rfl, ⟨_, rfl, rfl⟩⟩, ⟨_, rfl, rfl⟩, ⟨_, rfl, ⟨_, rfl, rfl⟩⟩, ⟨_, rfl, rfl⟩, ⟨_, rfl, rfl⟩, ⟨_, rfl, ⟨_, rfl, rfl⟩⟩, True.intro⟩, ⟨rowsLen_map (f := c_api_Named) (n := 4) (fun _ => rfl) p_more.Named, app_b2 (f := c_api_Named) (l := p_x.Named) (l' := p_more.Named) hc3, _, (List.map_append (f := c_api_Named) (l₁ := p_x.Named) (l₂ := p_more.Named)).symm, ⟨⟨⟨_, rfl, rfl⟩, ⟨_, rfl, rfl⟩, ⟨_, rfl, ⟨_, rfl, rfl⟩⟩, ⟨_, rfl, rfl⟩, ⟨_, rfl, ⟨_, rfl, rfl⟩⟩, ⟨_, rfl, rfl⟩, ⟨_, rfl, rfl⟩, ⟨_, rfl, ⟨_, rfl, rfl⟩⟩, ⟨_, rfl, rfl⟩, ⟨_, rfl, ⟨_, rfl, rfl⟩⟩, ⟨_, rfl, rfl⟩, ⟨_, rfl, rfl⟩, ⟨_, rfl, ⟨_, rfl, rfl⟩⟩, True.intro⟩, ⟨rowsLen_map (f := c_api_Room) (n := 3) (fun _ => rfl) p_x.Rooms, app_b1 (f := c_api_Room) (l' := p_x.Rooms) hc4, _, rfl, ⟨⟨⟨_, rfl, rfl⟩, ⟨_, rfl, ⟨_, rfl, rfl⟩⟩, ⟨_, rfl, rfl⟩, ⟨_, rfl, rfl⟩, ⟨_, rfl, ⟨_, rfl, rfl⟩⟩, ⟨_, rfl, rfl⟩, ⟨_, rfl, ⟨_, rfl, rfl⟩⟩, ⟨_, rfl, rfl⟩, ⟨_, rfl, rfl⟩, ⟨_, rfl, ⟨_, rfl, rfl⟩⟩, True.intro⟩, ⟨rowsLen_map (f := c_api_Room) (n := 3) (fun _ => rfl) p_more.Rooms, app_b2 (f := c_api_Room) (l := p_x.Rooms) (l' := p_more.Rooms) hc5, _, (List.map_append (f := c_api_Room) (l₁ := p_x.Rooms) (l₂ := p_more.Rooms)).symm, ⟨⟨⟨_, rfl, rfl⟩, ⟨_, rfl, rfl⟩, ⟨_, rfl, ⟨_, rfl, rfl⟩⟩, ⟨_, rfl, rfl⟩, ⟨_, rfl, ⟨_, rfl, rfl⟩⟩, ⟨_, rfl, rfl⟩, ⟨_, rfl, rfl⟩, ⟨_, rfl, ⟨_, rfl, rfl⟩⟩, True.intro⟩, ⟨rowsLen_map (f := c_api_Lease) (n := 7) (fun _ => rfl) p_x.Leases, app_b1 (f := c_api_Lease) (l' := p_x.Leases) hc6, _, rfl, ⟨⟨⟨_, rfl, rfl⟩, ⟨_, rfl, ⟨_, rfl, rfl⟩⟩, ⟨_, rfl, rfl⟩, ⟨_, rfl, rfl⟩, ⟨_, rfl, ⟨_, rfl, rfl⟩⟩, True.intro⟩, ⟨rowsLen_map (f := c_api_Lease) (n := 7) (fun _ => rfl) p_more.Leases, app_b2 (f := c_api_Lease) (l := p_x.Leases) (l' := p_more.Leases) hc7, _, (List.map_append (f := c_api_Lease) (l₁ := p_x.Leases) (l₂ := p_more.Leases)).symm, ⟨⟨⟨_, rfl, rfl⟩, ⟨_, rfl, rfl⟩, ⟨_, rfl, ⟨_, rfl, rfl⟩⟩, True.intro⟩, ?_⟩⟩⟩⟩⟩⟩⟩⟩⟩⟩⟩⟩⟩⟩⟩⟩⟩⟩⟩⟩⟩⟩⟩⟩⟩⟩⟩⟩⟩⟩
    refine CallOk.freeze (id := 61) rfl (CallOk.freeze (id := 68) rfl (CallOk.freeze (id := 75) rfl (CallOk.call (w_sweep_Gone hx6) (LeL.refl _) ?_)))
    refine ⟨True.intro, ⟨True.intro, ?_⟩⟩
    refine Ok.wk (Wk.tab (L := [(1, (vi p_now)), (4, (.b 4 0)), (9, (vb x1)), (10, (.s (List.map Go.Cat.encI x4))), (11, (.s (List.map Go.Cat.encI x5))), (12, (.s (List.map Go.Cat.encI x6)))]) (H' := [(4, .box [(.s (List.map c_api_Named p_x.Named)), (.s (List.map c_api_Room p_x.Rooms)), (.s (List.map c_api_Lease p_x.Leases)), (.s (List.map c_api_Disk p_x.Disks))])]) ⟨Le.refl _, Le.refl _, Le.refl _, Le.refl _, Le.refl _, Le.refl _, True.intro⟩ ⟨⟨_, rfl, .refl _⟩, True.intro⟩ rfl) ?_
    refine Ok.seq ?_
    refine Ok.region Try.tok ?_
    obtain ⟨x7, hx7, h⟩ := bindS h
    refine ⟨_, rfl, ⟨_, rfl, ⟨_, rfl, ?_⟩⟩⟩
    refine CallOk.call (w_sweep_Keeps hx7) (LeL.refl _) ?_
    refine Ok.wk (Wk.tab (L := [(4, (.b 4 0)), (9, (vb x1)), (10, (.s (List.map Go.Cat.encI x4))), (11, (.s (List.map Go.Cat.encI x5))), (12, (.s (List.map Go.Cat.encI x6))), (13, (.s (List.map Go.Cat.encI x7)))]) (H' := [(4, .box [(.s (List.map c_api_Named p_x.Named)), (.s (List.map c_api_Room p_x.Rooms)), (.s (List.map c_api_Lease p_x.Leases)), (.s (List.map c_api_Disk p_x.Disks))])]) ⟨Le.refl _, Le.refl _, Le.refl _, Le.refl _, Le.refl _, Le.refl _, True.intro⟩ ⟨⟨_, rfl, .refl _⟩, True.intro⟩ rfl) ?_
    refine Ok.seqj (fun v2 => ⟨Cat.tab [(4, (.b 4 0)), (9, (vb x1)), (10, (.s (List.map Go.Cat.encI x4))), (12, (.s (List.map Go.Cat.encI x6))), (13, (.s (List.map Go.Cat.encI x7)))], [(4, .box [(.s (List.map c_api_Named p_x.Named)), (.s (List.map c_api_Room p_x.Rooms)), (.s (List.map c_api_Lease p_x.Leases)), (.s (List.map c_api_Disk p_x.Disks))])]⟩) (fun v2 => law29_SweepLater_J1 x6 x4 p_x x7 x1 v2 = some r) ?_ ?_
    · refine Ok.seq ?_
      refine Ok.region Try.tok ?_
      refine Ok.wk (Wk.tab (L := [(4, (.b 4 0)), (9, (vb x1)), (10, (.s (List.map Go.Cat.encI x4))), (11, (.s (List.map Go.Cat.encI x5))), (12, (.s (List.map Go.Cat.encI x6))), (13, (.s (List.map Go.Cat.encI x7))), (14, (vi (0)))]) (H' := [(4, .box [(.s (List.map c_api_Named p_x.Named)), (.s (List.map c_api_Room p_x.Rooms)), (.s (List.map c_api_Lease p_x.Leases)), (.s (List.map c_api_Disk p_x.Disks))])]) ⟨Le.refl _, Le.refl _, Le.refl _, Le.refl _, Le.refl _, Le.refl _, Le.refl _, True.intro⟩ ⟨⟨_, rfl, .refl _⟩, True.intro⟩ rfl) ?_
      refine Ok.block ?_
      refine Ok.loop (fun (s1 : Int) => ⟨Cat.tab [(4, (.b 4 0)), (9, (vb x1)), (10, (.s (List.map Go.Cat.encI x4))), (11, (.s (List.map Go.Cat.encI x5))), (12, (.s (List.map Go.Cat.encI x6))), (13, (.s (List.map Go.Cat.encI x7))), (14, (vi s1))], [(4, .box [(.s (List.map c_api_Named p_x.Named)), (.s (List.map c_api_Room p_x.Rooms)), (.s (List.map c_api_Lease p_x.Leases)), (.s (List.map c_api_Disk p_x.Disks))])]⟩) (law29_SweepLater_B1 x4 x5 x7 x6 p_x x1) (s0 := 0) h (Wk.tab ⟨Le.refl _, Le.refl _, Le.refl _, Le.refl _, Le.refl _, Le.refl _, Le.refl _, True.intro⟩ ⟨⟨_, rfl, .refl _⟩, True.intro⟩ rfl) ?_
      intro s1 y1 hB1 hy1
      unfold law29_SweepLater_B1 at hB1
      refine Ok.seq ?_
      refine Ok.seq ?_
      refine Ok.region Try.tok ?_
      refine ⟨_, List.length_map _, fun _ => ?_⟩
      refine Ok.wk (Wk.tab (L := [(4, (.b 4 0)), (9, (vb x1)), (10, (.s (List.map Go.Cat.encI x4))), (11, (.s (List.map Go.Cat.encI x5))), (12, (.s (List.map Go.Cat.encI x6))), (13, (.s (List.map Go.Cat.encI x7))), (14, (vi s1)), (94, (vb ((decide (s1 < (x4.length : Int))))))]) (H' := [(4, .box [(.s (List.map c_api_Named p_x.Named)), (.s (List.map c_api_Room p_x.Rooms)), (.s (List.map c_api_Lease p_x.Leases)), (.s (List.map c_api_Disk p_x.Disks))])]) ⟨Le.refl _, Le.refl _, Le.refl _, Le.refl _, Le.refl _, Le.refl _, Le.refl _, Le.refl _, True.intro⟩ ⟨⟨_, rfl, .refl _⟩, True.intro⟩ rfl) ?_
      refine Ok.cond (d := 94) (b := (decide (s1 < (x4.length : Int)))) rfl hB1 (fun hb hB1 => ?_) fun hb hB1 => ?_
      · refine Ok.skip ?_
        refine Ok.seq ?_
        refine Ok.block ?_
        obtain ⟨v3, hv3, hB1⟩ := bindS hB1
        refine Ok.seqw ⟨Cat.tab [(4, (.b 4 0)), (9, (vb x1)), (10, (.s (List.map Go.Cat.encI x4))), (11, (.s (List.map Go.Cat.encI x5))), (12, (.s (List.map Go.Cat.encI x6))), (13, (.s (List.map Go.Cat.encI x7))), (14, (vi s1)), (127, (vb v3))], [(4, .box [(.s (List.map c_api_Named p_x.Named)), (.s (List.map c_api_Room p_x.Rooms)), (.s (List.map c_api_Lease p_x.Leases)), (.s (List.map c_api_Disk p_x.Disks))])]⟩ ?_ ?_
        · refine Ok.draw (m := 31) (MD := ⟨[]⟩) (CH := ⟨[]⟩) Try.tok Try.mixed (by kernel_rfl) ?_
          obtain ⟨x8, hx8, hv3⟩ := bindS hv3
          obtain ⟨x9, hx9, hv3⟩ := bindS hv3
          refine ⟨_, rfl, ⟨_, rfl, ⟨_, rfl, ⟨_, ⟨_, idx_nat hx8, _, idx_row hx8, rfl⟩, ⟨_, ⟨_, rfl, rfl⟩, ⟨_, ⟨_, .of_pure (w_ref29_Has hx9) (LeL.refl _), rfl⟩, ⟨_, rfl, ⟨_, rfl, ?_⟩⟩⟩⟩⟩⟩⟩⟩
          obtain ⟨c4, hg7, hv3⟩ := bindS hv3
          refine Br.itf hg7 (fun hb hg7 => ?_) fun hb hg7 => ?_
          · cases hg7
            refine ⟨_, rfl, ?_⟩
            refine ⟨_, rfl, ?_⟩
            obtain ⟨c6, hg8, hv3⟩ := bindS hv3
            replace hg8 := iteT hg8
            cases hg8
            refine ⟨_, rfl, ?_⟩
            refine ⟨True.intro, ?_⟩
            cases hv3
            exact Wk.tab ⟨Le.refl _, Le.refl _, Le.refl _, Le.refl _, Le.refl _, Le.refl _, Le.refl _, Le.refl _, True.intro⟩ ⟨⟨_, rfl, .refl _⟩, True.intro⟩ rfl
          · obtain ⟨x10, hx10, hg7⟩ := bindS hg7
            obtain ⟨x11, hx11, hg7⟩ := bindS hg7
            refine ⟨_, rfl, ⟨_, rfl, ⟨_, rfl, ⟨_, ⟨_, idx_nat hx10, _, idx_row hx10, rfl⟩, ⟨_, ⟨_, rfl, rfl⟩, ⟨_, ⟨_, .of_pure (w_ref29_Has hx11) (LeL.refl _), rfl⟩, ?_⟩⟩⟩⟩⟩⟩
            cases hg7
            refine ⟨_, rfl, ?_⟩
            refine ⟨_, rfl, ?_⟩
            obtain ⟨c6, hg9, hv3⟩ := bindS hv3
            refine Br.itf hg9 (fun hb hg9 => ?_) fun hb hg9 => ?_
            · cases hg9
              refine ⟨_, rfl, ?_⟩
              refine ⟨True.intro, ?_⟩
              cases hv3
              exact Wk.tab ⟨Le.refl _, Le.refl _, Le.refl _, Le.refl _, Le.refl _, Le.refl _, Le.refl _, Le.refl _, True.intro⟩ ⟨⟨_, rfl, .refl _⟩, True.intro⟩ rfl
            · refine ⟨_, rfl, ⟨_, rfl, ⟨_, rfl, ?_⟩⟩⟩
              obtain ⟨c5, hg10, hg9⟩ := bindS hg9
              refine Br.ite hg10 (fun hb hg10 => ?_) fun hb hg10 => ?_
              · obtain ⟨hc8, hg10⟩ := chk_some hg10
                obtain ⟨x12, hx12, hg10⟩ := bindS hg10
                obtain ⟨x13, hx13, hg10⟩ := bindS hg10
                refine ⟨_, rfl, ⟨_, rfl, ⟨_, (Or.inl ⟨hc8, rfl⟩), ⟨_, ⟨_, idx_nat hx12, _, idx_row hx12, rfl⟩, ⟨_, ⟨_, rfl, rfl⟩, ⟨_, rfl, ⟨_, rfl, ⟨_, ⟨_, idx_nat hx13, _, idx_row hx13, rfl⟩, ⟨_, ⟨_, rfl, rfl⟩, ⟨_, rfl, ?_⟩⟩⟩⟩⟩⟩⟩⟩⟩⟩
                cases hg10
                refine ⟨_, rfl, ?_⟩
                cases hg9
                refine ⟨_, rfl, ?_⟩
                refine ⟨True.intro, ?_⟩
                cases hv3
                exact Wk.tab ⟨Le.refl _, Le.refl _, Le.refl _, Le.refl _, Le.refl _, Le.refl _, Le.refl _, Le.refl _, True.intro⟩ ⟨⟨_, rfl, .refl _⟩, True.intro⟩ rfl
              · cases hg10
                refine ⟨_, rfl, ?_⟩
                cases hg9
                refine ⟨_, rfl, ?_⟩
                refine ⟨True.intro, ?_⟩
                cases hv3
                exact Wk.tab ⟨Le.refl _, Le.refl _, Le.refl _, Le.refl _, Le.refl _, Le.refl _, Le.refl _, Le.refl _, True.intro⟩ ⟨⟨_, rfl, .refl _⟩, True.intro⟩ rfl
        refine Ok.cond (d := 127) (b := v3) rfl hB1 (fun hb hB1 => ?_) fun hb hB1 => ?_
        · refine Ok.seq ?_
          refine Ok.region Try.tok ?_
          refine Ok.wk (Wk.tab (L := [(8, (vb false))]) (H' := []) ⟨Le.refl _, True.intro⟩ True.intro rfl) ?_
          refine Ok.ret ?_
          have hB1 := out_ret hB1 hy1
          cases hB1
          exact Fz.v
        · refine Ok.skip ?_
          refine Ok.region Try.tok ?_
          obtain ⟨hc9, hB1⟩ := chk_some hB1
          refine (Or.inl ⟨hc9, ?_⟩)
          exact ⟨_, (Option.some.inj hB1).symm, Wk.tab ⟨Le.refl _, Le.refl _, Le.refl _, Le.refl _, Le.refl _, Le.refl _, Le.refl _, True.intro⟩ ⟨⟨_, rfl, .refl _⟩, True.intro⟩ rfl⟩
      · refine Ok.exit ?_
        have hB1 := out_ret hB1 hy1
        exact ⟨_, hB1, Wk.tab ⟨Le.refl _, Le.refl _, Le.refl _, Le.refl _, Le.refl _, True.intro⟩ ⟨⟨_, rfl, .refl _⟩, True.intro⟩ rfl⟩
    intro v2 h
    unfold law29_SweepLater_J1 at h
    refine Ok.seqj (fun v4 => ⟨Cat.tab [(4, (.b 4 0)), (9, (vb x1)), (10, (.s (List.map Go.Cat.encI x4))), (13, (.s (List.map Go.Cat.encI x7)))], [(4, .box [(.s (List.map c_api_Named p_x.Named)), (.s (List.map c_api_Room p_x.Rooms)), (.s (List.map c_api_Lease p_x.Leases)), (.s (List.map c_api_Disk p_x.Disks))])]⟩) (fun v4 => law29_SweepLater_J2 p_x x7 x4 x1 v4 = some r) ?_ ?_
    · refine Ok.seq ?_
      refine Ok.region Try.tok ?_
      refine Ok.wk (Wk.tab (L := [(4, (.b 4 0)), (9, (vb x1)), (10, (.s (List.map Go.Cat.encI x4))), (12, (.s (List.map Go.Cat.encI x6))), (13, (.s (List.map Go.Cat.encI x7))), (15, (vi (0)))]) (H' := [(4, .box [(.s (List.map c_api_Named p_x.Named)), (.s (List.map c_api_Room p_x.Rooms)), (.s (List.map c_api_Lease p_x.Leases)), (.s (List.map c_api_Disk p_x.Disks))])]) ⟨Le.refl _, Le.refl _, Le.refl _, Le.refl _, Le.refl _, Le.refl _, True.intro⟩ ⟨⟨_, rfl, .refl _⟩, True.intro⟩ rfl) ?_
      refine Ok.block ?_
      refine Ok.loop (fun (s2 : Int) => ⟨Cat.tab [(4, (.b 4 0)), (9, (vb x1)), (10, (.s (List.map Go.Cat.encI x4))), (12, (.s (List.map Go.Cat.encI x6))), (13, (.s (List.map Go.Cat.encI x7))), (15, (vi s2))], [(4, .box [(.s (List.map c_api_Named p_x.Named)), (.s (List.map c_api_Room p_x.Rooms)), (.s (List.map c_api_Lease p_x.Leases)), (.s (List.map c_api_Disk p_x.Disks))])]⟩) (law29_SweepLater_B2 x6 x4 p_x x7 x1) (s0 := 0) h (Wk.tab ⟨Le.refl _, Le.refl _, Le.refl _, Le.refl _, Le.refl _, Le.refl _, True.intro⟩ ⟨⟨_, rfl, .refl _⟩, True.intro⟩ rfl) ?_
      intro s2 y2 hB2 hy2
      unfold law29_SweepLater_B2 at hB2
      refine Ok.seq ?_
      refine Ok.seq ?_
      refine Ok.region Try.tok ?_
      refine ⟨_, List.length_map _, fun _ => ?_⟩
      refine Ok.wk (Wk.tab (L := [(4, (.b 4 0)), (9, (vb x1)), (10, (.s (List.map Go.Cat.encI x4))), (12, (.s (List.map Go.Cat.encI x6))), (13, (.s (List.map Go.Cat.encI x7))), (15, (vi s2)), (131, (vb ((decide (s2 < (x6.length : Int))))))]) (H' := [(4, .box [(.s (List.map c_api_Named p_x.Named)), (.s (List.map c_api_Room p_x.Rooms)), (.s (List.map c_api_Lease p_x.Leases)), (.s (List.map c_api_Disk p_x.Disks))])]) ⟨Le.refl _, Le.refl _, Le.refl _, Le.refl _, Le.refl _, Le.refl _, Le.refl _, True.intro⟩ ⟨⟨_, rfl, .refl _⟩, True.intro⟩ rfl) ?_
      refine Ok.cond (d := 131) (b := (decide (s2 < (x6.length : Int)))) rfl hB2 (fun hb hB2 => ?_) fun hb hB2 => ?_
      · refine Ok.skip ?_
        refine Ok.seq ?_
        refine Ok.block ?_
        refine Ok.seq ?_
        refine Ok.region Try.tok ?_
        obtain ⟨x14, hx14, hB2⟩ := bindS hB2
        obtain ⟨x15, hx15, hB2⟩ := bindS hB2
        refine ⟨_, idx_nat hx14, _, idx_row hx14, ⟨_, rfl, ?_⟩⟩
        refine CallOk.call (w_ref29_Has hx15) (LeL.refl _) ?_
        refine Ok.wk (Wk.tab (L := [(4, (.b 4 0)), (9, (vb x1)), (10, (.s (List.map Go.Cat.encI x4))), (12, (.s (List.map Go.Cat.encI x6))), (13, (.s (List.map Go.Cat.encI x7))), (15, (vi s2)), (140, (vb ((!x15))))]) (H' := [(4, .box [(.s (List.map c_api_Named p_x.Named)), (.s (List.map c_api_Room p_x.Rooms)), (.s (List.map c_api_Lease p_x.Leases)), (.s (List.map c_api_Disk p_x.Disks))])]) ⟨Le.refl _, Le.refl _, Le.refl _, Le.refl _, Le.refl _, Le.refl _, Le.refl _, True.intro⟩ ⟨⟨_, rfl, .refl _⟩, True.intro⟩ rfl) ?_
        refine Ok.cond (d := 140) (b := (!x15)) rfl hB2 (fun hb hB2 => ?_) fun hb hB2 => ?_
        · refine Ok.seq ?_
          refine Ok.region Try.tok ?_
          refine Ok.wk (Wk.tab (L := [(8, (vb false))]) (H' := []) ⟨Le.refl _, True.intro⟩ True.intro rfl) ?_
          refine Ok.ret ?_
          have hB2 := out_ret hB2 hy2
          cases hB2
          exact Fz.v
        · refine Ok.skip ?_
          refine Ok.region Try.tok ?_
          obtain ⟨hc10, hB2⟩ := chk_some hB2
          refine (Or.inl ⟨hc10, ?_⟩)
          exact ⟨_, (Option.some.inj hB2).symm, Wk.tab ⟨Le.refl _, Le.refl _, Le.refl _, Le.refl _, Le.refl _, Le.refl _, True.intro⟩ ⟨⟨_, rfl, .refl _⟩, True.intro⟩ rfl⟩
      · refine Ok.exit ?_
        have hB2 := out_ret hB2 hy2
        exact ⟨_, hB2, Wk.tab ⟨Le.refl _, Le.refl _, Le.refl _, Le.refl _, True.intro⟩ ⟨⟨_, rfl, .refl _⟩, True.intro⟩ rfl⟩
    intro v4 h
    unfold law29_SweepLater_J2 at h
    refine Ok.seqj (fun v5 => ⟨Cat.tab [(9, (vb x1))], []⟩) (fun v5 => law29_SweepLater_J3 x1 v5 = some r) ?_ ?_
    · refine Ok.seq ?_
      refine Ok.region Try.tok ?_
      refine Ok.wk (Wk.tab (L := [(4, (.b 4 0)), (9, (vb x1)), (10, (.s (List.map Go.Cat.encI x4))), (13, (.s (List.map Go.Cat.encI x7))), (16, (vi (0)))]) (H' := [(4, .box [(.s (List.map c_api_Named p_x.Named)), (.s (List.map c_api_Room p_x.Rooms)), (.s (List.map c_api_Lease p_x.Leases)), (.s (List.map c_api_Disk p_x.Disks))])]) ⟨Le.refl _, Le.refl _, Le.refl _, Le.refl _, Le.refl _, True.intro⟩ ⟨⟨_, rfl, .refl _⟩, True.intro⟩ rfl) ?_
      refine Ok.block ?_
      refine Ok.loop (fun (s3 : Int) => ⟨Cat.tab [(4, (.b 4 0)), (9, (vb x1)), (10, (.s (List.map Go.Cat.encI x4))), (13, (.s (List.map Go.Cat.encI x7))), (16, (vi s3))], [(4, .box [(.s (List.map c_api_Named p_x.Named)), (.s (List.map c_api_Room p_x.Rooms)), (.s (List.map c_api_Lease p_x.Leases)), (.s (List.map c_api_Disk p_x.Disks))])]⟩) (law29_SweepLater_B3 p_x x7 x4 x1) (s0 := 0) h (Wk.tab ⟨Le.refl _, Le.refl _, Le.refl _, Le.refl _, Le.refl _, True.intro⟩ ⟨⟨_, rfl, .refl _⟩, True.intro⟩ rfl) ?_
      intro s3 y3 hB3 hy3
      unfold law29_SweepLater_B3 at hB3
      refine Ok.seq ?_
      refine Ok.seq ?_
      refine Ok.region Try.tok ?_
      refine ⟨_, rfl, ⟨_, List.length_map _, fun _ => ?_⟩⟩
      refine Ok.wk (Wk.tab (L := [(4, (.b 4 0)), (9, (vb x1)), (10, (.s (List.map Go.Cat.encI x4))), (13, (.s (List.map Go.Cat.encI x7))), (16, (vi s3)), (145, (vb ((decide (s3 < (p_x.Disks.length : Int))))))]) (H' := [(4, .box [(.s (List.map c_api_Named p_x.Named)), (.s (List.map c_api_Room p_x.Rooms)), (.s (List.map c_api_Lease p_x.Leases)), (.s (List.map c_api_Disk p_x.Disks))])]) ⟨Le.refl _, Le.refl _, Le.refl _, Le.refl _, Le.refl _, Le.refl _, True.intro⟩ ⟨⟨_, rfl, .refl _⟩, True.intro⟩ rfl) ?_
      refine Ok.cond (d := 145) (b := (decide (s3 < (p_x.Disks.length : Int)))) rfl hB3 (fun hb hB3 => ?_) fun hb hB3 => ?_
      · refine Ok.skip ?_
        refine Ok.seqj (fun v6 => ⟨Cat.tab [(4, (.b 4 0)), (9, (vb x1)), (10, (.s (List.map Go.Cat.encI x4))), (13, (.s (List.map Go.Cat.encI x7))), (16, (vi s3))], [(4, .box [(.s (List.map c_api_Named p_x.Named)), (.s (List.map c_api_Room p_x.Rooms)), (.s (List.map c_api_Lease p_x.Leases)), (.s (List.map c_api_Disk p_x.Disks))])]⟩) (fun v6 => law29_SweepLater_J4 s3 v6 = some y3) ?_ ?_
        · refine Ok.block ?_
          refine Ok.seq ?_
          refine Ok.region Try.tok ?_
          obtain ⟨x16, hx16, hB3⟩ := bindS hB3
          obtain ⟨x17, hx17, hB3⟩ := bindS hB3
          refine ⟨_, rfl, ⟨_, idx_nat hx16, _, idx_row hx16, ⟨_, rfl, ?_⟩⟩⟩
          refine CallOk.call (w_chunk_Has hx17) (LeL.refl _) ?_
          refine Ok.wk (Wk.tab (L := [(4, (.b 4 0)), (9, (vb x1)), (10, (.s (List.map Go.Cat.encI x4))), (13, (.s (List.map Go.Cat.encI x7))), (16, (vi s3)), (17, (.s (List.map Go.Cat.encI x17)))]) (H' := [(4, .box [(.s (List.map c_api_Named p_x.Named)), (.s (List.map c_api_Room p_x.Rooms)), (.s (List.map c_api_Lease p_x.Leases)), (.s (List.map c_api_Disk p_x.Disks))])]) ⟨Le.refl _, Le.refl _, Le.refl _, Le.refl _, Le.refl _, Le.refl _, True.intro⟩ ⟨⟨_, rfl, .refl _⟩, True.intro⟩ rfl) ?_
          refine Ok.seq ?_
          refine Ok.region Try.tok ?_
          refine Ok.wk (Wk.tab (L := [(4, (.b 4 0)), (9, (vb x1)), (10, (.s (List.map Go.Cat.encI x4))), (13, (.s (List.map Go.Cat.encI x7))), (16, (vi s3)), (17, (.s (List.map Go.Cat.encI x17))), (18, (vi (0)))]) (H' := [(4, .box [(.s (List.map c_api_Named p_x.Named)), (.s (List.map c_api_Room p_x.Rooms)), (.s (List.map c_api_Lease p_x.Leases)), (.s (List.map c_api_Disk p_x.Disks))])]) ⟨Le.refl _, Le.refl _, Le.refl _, Le.refl _, Le.refl _, Le.refl _, Le.refl _, True.intro⟩ ⟨⟨_, rfl, .refl _⟩, True.intro⟩ rfl) ?_
          refine Ok.block ?_
          refine Ok.loop (fun (s4 : Int) => ⟨Cat.tab [(4, (.b 4 0)), (9, (vb x1)), (10, (.s (List.map Go.Cat.encI x4))), (13, (.s (List.map Go.Cat.encI x7))), (16, (vi s3)), (17, (.s (List.map Go.Cat.encI x17))), (18, (vi s4))], [(4, .box [(.s (List.map c_api_Named p_x.Named)), (.s (List.map c_api_Room p_x.Rooms)), (.s (List.map c_api_Lease p_x.Leases)), (.s (List.map c_api_Disk p_x.Disks))])]⟩) (law29_SweepLater_B4 x17 x7 x4 s3) (s0 := 0) hB3 (Wk.tab ⟨Le.refl _, Le.refl _, Le.refl _, Le.refl _, Le.refl _, Le.refl _, Le.refl _, True.intro⟩ ⟨⟨_, rfl, .refl _⟩, True.intro⟩ rfl) ?_
          intro s4 y4 hB4 hy4
          unfold law29_SweepLater_B4 at hB4
          refine Ok.seq ?_
          refine Ok.seq ?_
          refine Ok.region Try.tok ?_
          refine ⟨_, List.length_map _, fun _ => ?_⟩
          refine Ok.wk (Wk.tab (L := [(4, (.b 4 0)), (9, (vb x1)), (10, (.s (List.map Go.Cat.encI x4))), (13, (.s (List.map Go.Cat.encI x7))), (16, (vi s3)), (17, (.s (List.map Go.Cat.encI x17))), (18, (vi s4)), (157, (vb ((decide (s4 < (x17.length : Int))))))]) (H' := [(4, .box [(.s (List.map c_api_Named p_x.Named)), (.s (List.map c_api_Room p_x.Rooms)), (.s (List.map c_api_Lease p_x.Leases)), (.s (List.map c_api_Disk p_x.Disks))])]) ⟨Le.refl _, Le.refl _, Le.refl _, Le.refl _, Le.refl _, Le.refl _, Le.refl _, Le.refl _, True.intro⟩ ⟨⟨_, rfl, .refl _⟩, True.intro⟩ rfl) ?_
          refine Ok.cond (d := 157) (b := (decide (s4 < (x17.length : Int)))) rfl hB4 (fun hb hB4 => ?_) fun hb hB4 => ?_
          · refine Ok.skip ?_
            refine Ok.seq ?_
            refine Ok.block ?_
            refine Ok.seq ?_
            refine Ok.draw (m := 13) (MD := ⟨[]⟩) (CH := ⟨[]⟩) Try.tok Try.mixed (by kernel_rfl) ?_
            obtain ⟨x18, hx18, hB4⟩ := bindS hB4
            obtain ⟨x19, hx19, hB4⟩ := bindS hB4
            obtain ⟨x20, hx20, hB4⟩ := bindS hB4
            obtain ⟨x21, hx21, hB4⟩ := bindS hB4
            refine ⟨_, rfl, ⟨_, rfl, ⟨_, rfl, ⟨_, ⟨_, idx_nat hx18, _, idx_row hx18, rfl⟩, ⟨_, ⟨_, rfl, rfl⟩, ⟨_, ⟨_, .of_pure (w_ref29_Has hx19) (LeL.refl _), rfl⟩, ⟨_, rfl, ⟨_, rfl, ⟨_, rfl, ⟨_, ⟨_, idx_nat hx20, _, idx_row hx20, rfl⟩, ⟨_, ⟨_, rfl, rfl⟩, ⟨_, ⟨_, .of_pure (w_ref29_Has hx21) (LeL.refl _), rfl⟩, ⟨_, rfl, ⟨True.intro, ?_⟩⟩⟩⟩⟩⟩⟩⟩⟩⟩⟩⟩⟩⟩
            refine Ok.wk (Wk.tab (L := [(4, (.b 4 0)), (9, (vb x1)), (10, (.s (List.map Go.Cat.encI x4))), (13, (.s (List.map Go.Cat.encI x7))), (16, (vi s3)), (17, (.s (List.map Go.Cat.encI x17))), (18, (vi s4)), (172, (vb ((x19 == x21))))]) (H' := [(4, .box [(.s (List.map c_api_Named p_x.Named)), (.s (List.map c_api_Room p_x.Rooms)), (.s (List.map c_api_Lease p_x.Leases)), (.s (List.map c_api_Disk p_x.Disks))])]) ⟨Le.refl _, Le.refl _, Le.refl _, Le.refl _, Le.refl _, Le.refl _, Le.refl _, Le.refl _, True.intro⟩ ⟨⟨_, rfl, .refl _⟩, True.intro⟩ rfl) ?_
            refine Ok.cond (d := 172) (b := (x19 == x21)) rfl hB4 (fun hb hB4 => ?_) fun hb hB4 => ?_
            · refine Ok.seq ?_
              refine Ok.region Try.tok ?_
              refine Ok.wk (Wk.tab (L := [(8, (vb false))]) (H' := []) ⟨Le.refl _, True.intro⟩ True.intro rfl) ?_
              refine Ok.ret ?_
              have hB4 := out_ret hB4 hy4
              have hB4 := out_ret hB4 hy3
              cases hB4
              exact Fz.v
            · refine Ok.skip ?_
              refine Ok.region Try.tok ?_
              obtain ⟨hc11, hB4⟩ := chk_some hB4
              refine (Or.inl ⟨hc11, ?_⟩)
              exact ⟨_, (Option.some.inj hB4).symm, Wk.tab ⟨Le.refl _, Le.refl _, Le.refl _, Le.refl _, Le.refl _, Le.refl _, Le.refl _, True.intro⟩ ⟨⟨_, rfl, .refl _⟩, True.intro⟩ rfl⟩
          · refine Ok.exit ?_
            have hB4 := out_ret hB4 hy4
            exact ⟨_, hB4, Wk.tab ⟨Le.refl _, Le.refl _, Le.refl _, Le.refl _, Le.refl _, True.intro⟩ ⟨⟨_, rfl, .refl _⟩, True.intro⟩ rfl⟩
        intro v6 hB3
        unfold law29_SweepLater_J4 at hB3
        refine Ok.region Try.tok ?_
        obtain ⟨hc12, hB3⟩ := chk_some hB3
        refine (Or.inl ⟨hc12, ?_⟩)
        exact ⟨_, (Option.some.inj hB3).symm, Wk.tab ⟨Le.refl _, Le.refl _, Le.refl _, Le.refl _, Le.refl _, True.intro⟩ ⟨⟨_, rfl, .refl _⟩, True.intro⟩ rfl⟩
      · refine Ok.exit ?_
        have hB3 := out_ret hB3 hy3
        exact ⟨_, hB3, Wk.tab ⟨Le.refl _, True.intro⟩ True.intro rfl⟩
    intro v5 h
    unfold law29_SweepLater_J3 at h
    refine Ok.seq ?_
    refine Ok.region Try.tok ?_
    refine Ok.wk (Wk.tab (L := [(8, (vb x1))]) (H' := []) ⟨Le.refl _, True.intro⟩ True.intro rfl) ?_
    refine Ok.ret ?_
    cases h
    exact Fz.v

end Go.Proofs
