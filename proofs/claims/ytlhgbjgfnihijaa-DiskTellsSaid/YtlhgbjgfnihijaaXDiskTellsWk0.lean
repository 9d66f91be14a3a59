/- The walks of this seat beside the plain programs, part 0. No condition. -/
import Derived.Test.YtlhgbjgfnihijaaXDiskTellsEn
namespace Go.Proofs
set_option linter.all false
open Go Go.Cat
variable [M : Mono]
set_option maxRecDepth 100000

theorem w_disk_New {r : api_Disk} (h : disk_New = some r) : Pure Try.prog 24 [] (.a [(.s (List.map c_api_Page r.Synced)), (.s (List.map c_api_Page r.Loose)), (vb r.Down)]) := by
  refine pure_of_ok (n := 2) (c := (Try.f24.body.getD .skip)) Try.tok Try.func24 (by kernel_rfl) rfl rfl (Nat.le_of_ble_eq_true rfl) ?_
  unfold disk_New at h
  refine Ok.wk (Wk.tab (L := []) (H' := []) True.intro True.intro rfl) ?_
  refine Ok.seq ?_
  refine Ok.region Try.tok ?_
  refine Ok.wk (Wk.tab (L := [(0, (.b 0 0))]) (H' := [(0, .box [(.v (.slice none 0 0)), (.v (.slice none 0 0)), (vb false)])]) ⟨Le.refl _, True.intro⟩ ⟨⟨_, rfl, .refl _⟩, True.intro⟩ rfl) ?_
  refine Ok.seq ?_
  refine Ok.region Try.tok ?_
  refine ⟨_, rfl, ?_⟩
  refine Ok.wk (Wk.tab (L := [(0, (.b 0 0))]) (H' := [(0, .box [(.v (.slice none 0 0)), (.v (.slice none 0 0)), (vb false)])]) ⟨Le.refl _, True.intro⟩ ⟨⟨_, rfl, .refl _⟩, True.intro⟩ rfl) ?_
  refine Ok.ret ?_
  cases h
  exact ⟨_, rfl, (Fz.a (.cons Fz.nil (.cons Fz.nil (.cons Fz.v .nil))))⟩

theorem w_disk_may {p_at : Int} {p_data : List UInt8} {r : Bool} (h : disk_may p_at p_data = some r) : Pure Try.prog 26 [(vi p_at), (.s (List.map cU8 p_data))] (vb r) := by
  refine pure_of_ok (n := 16) (c := (Try.f26.body.getD .skip)) Try.tok Try.func26 (by kernel_rfl) rfl rfl (Nat.le_of_ble_eq_true rfl) ?_
  unfold disk_may at h
  refine Ok.wk (Wk.tab (L := [(0, (vi p_at)), (1, (.s (List.map cU8 p_data)))]) (H' := []) ⟨Le.refl _, Le.refl _, True.intro⟩ True.intro rfl) ?_
  refine Ok.seq ?_
  refine Ok.region Try.tok ?_
  refine Ok.wk (Wk.tab (L := [(0, (vi p_at)), (1, (.s (List.map cU8 p_data)))]) (H' := []) ⟨Le.refl _, Le.refl _, True.intro⟩ True.intro rfl) ?_
  obtain ⟨v1, hv1, h⟩ := bindS h
  refine Ok.seqw ⟨Cat.tab [(4, (vb v1))], []⟩ ?_ ?_
  · refine Ok.region Try.tok ?_
    obtain ⟨c1, hg1, hv1⟩ := bindS hv1
    refine Br.ite hg1 (fun hb hg1 => ?_) fun hb hg1 => ?_
    · cases hg1
      obtain ⟨c2, hg2, hv1⟩ := bindS hv1
      refine Br.ite hg2 (fun hb hg2 => ?_) fun hb hg2 => ?_
      · refine ⟨_, List.length_map _, fun _ => ?_⟩
        cases hg2
        cases hv1
        exact Wk.tab ⟨Le.refl _, True.intro⟩ True.intro rfl
      · cases hg2
        cases hv1
        exact Wk.tab ⟨Le.refl _, True.intro⟩ True.intro rfl
    · cases hg1
      obtain ⟨c2, hg3, hv1⟩ := bindS hv1
      replace hg3 := iteF hg3
      cases hg3
      cases hv1
      exact Wk.tab ⟨Le.refl _, True.intro⟩ True.intro rfl
  refine Ok.ret ?_
  cases h
  exact Fz.v

theorem wo_slices_Clone_api_Page_api_Page {p_s : List api_Page} {r : (List api_Page)} (h : slices_Clone_api_Page_api_Page p_s = some r) : POwn Try.prog 38 [(.s (List.map c_api_Page p_s))] 48 2 (List.map c_api_Page r) := by
  refine pown_of_ok (n := 8) (c := (Try.f38.body.getD .skip)) Try.tok Try.func38 (by kernel_rfl) rfl rfl (Nat.le_of_ble_eq_true rfl) ?_
  unfold slices_Clone_api_Page_api_Page at h
  refine Ok.wk (Wk.tab (L := [(0, (.s (List.map c_api_Page p_s)))]) (H' := []) ⟨Le.refl _, True.intro⟩ True.intro rfl) ?_
  refine Ok.seq ?_
  refine Ok.region Try.tok ?_
  refine Ok.wk (Wk.tab (L := [(0, (.s (List.map c_api_Page p_s)))]) (H' := []) ⟨Le.refl _, True.intro⟩ True.intro rfl) ?_
  refine Ok.seq ?_
  refine Ok.seq ?_
  refine Ok.region Try.tok ?_
  intro b1 hb1
  have h := anyOf_some h b1 (fun e => List.map_eq_nil_iff.1 (hb1 e))
  refine Ok.wk (Wk.tab (L := [(0, (.s (List.map c_api_Page p_s))), (4, (vb b1))]) (H' := []) ⟨Le.refl _, Le.refl _, True.intro⟩ True.intro rfl) ?_
  refine Ok.cond (d := 4) (b := b1) rfl h (fun hb h => ?_) fun hb h => ?_
  · refine Ok.seq ?_
    refine Ok.region Try.tok ?_
    refine Ok.wk (Wk.tab (L := [(2, (.v (.slice none 0 0)))]) (H' := []) ⟨Le.refl _, True.intro⟩ True.intro rfl) ?_
    refine Ok.ret ?_
    cases h
    exact (.inl ⟨rfl, rfl⟩)
  · refine Ok.skip ?_
    refine Ok.seq ?_
    refine Ok.region Try.tok ?_
    obtain ⟨hc1, h⟩ := chk_some h
    refine Or.inr ⟨rowsLen_map (f := c_api_Page) (n := 2) (fun _ => rfl) p_s, app_b2 (f := c_api_Page) (l := (([] : List api_Page))) (l' := p_s) hc1, _, (List.map_append (f := c_api_Page) (l₁ := (([] : List api_Page))) (l₂ := p_s)).symm, ?_⟩
    refine Ok.wk (Wk.tab (L := [(2, (.o 5))]) (H' := [(5, .own 48 2 (List.map c_api_Page ((([] : List api_Page) ++ p_s))))]) ⟨Le.refl _, True.intro⟩ ⟨⟨_, rfl, .refl _⟩, True.intro⟩ rfl) ?_
    refine Ok.ret ?_
    cases h
    exact (.inr ⟨_, rfl, rfl⟩)
theorem w_slices_Clone_api_Page_api_Page {p_s : List api_Page} {r : (List api_Page)} (h : slices_Clone_api_Page_api_Page p_s = some r) : Pure Try.prog 38 [(.s (List.map c_api_Page p_s))] (.s (List.map c_api_Page r)) := (wo_slices_Clone_api_Page_api_Page h).pure

theorem wo_bytes_Clone {p_b : List UInt8} {r : (List UInt8)} (h : bytes_Clone p_b = some r) : POwn Try.prog 37 [(.s (List.map cU8 p_b))] 5 1 (List.map cU8 r) := by
  refine pown_of_ok (n := 8) (c := (Try.f37.body.getD .skip)) Try.tok Try.func37 (by kernel_rfl) rfl rfl (Nat.le_of_ble_eq_true rfl) ?_
  unfold bytes_Clone at h
  refine Ok.wk (Wk.tab (L := [(0, (.s (List.map cU8 p_b)))]) (H' := []) ⟨Le.refl _, True.intro⟩ True.intro rfl) ?_
  refine Ok.seq ?_
  refine Ok.region Try.tok ?_
  refine Ok.wk (Wk.tab (L := [(0, (.s (List.map cU8 p_b)))]) (H' := []) ⟨Le.refl _, True.intro⟩ True.intro rfl) ?_
  refine Ok.seq ?_
  refine Ok.seq ?_
  refine Ok.region Try.tok ?_
  intro b1 hb1
  have h := anyOf_some h b1 (fun e => List.map_eq_nil_iff.1 (hb1 e))
  refine Ok.wk (Wk.tab (L := [(0, (.s (List.map cU8 p_b))), (4, (vb b1))]) (H' := []) ⟨Le.refl _, Le.refl _, True.intro⟩ True.intro rfl) ?_
  refine Ok.cond (d := 4) (b := b1) rfl h (fun hb h => ?_) fun hb h => ?_
  · refine Ok.seq ?_
    refine Ok.region Try.tok ?_
    refine Ok.wk (Wk.tab (L := [(2, (.v (.slice none 0 0)))]) (H' := []) ⟨Le.refl _, True.intro⟩ True.intro rfl) ?_
    refine Ok.ret ?_
    cases h
    exact (.inl ⟨rfl, rfl⟩)
  · refine Ok.skip ?_
    refine Ok.seq ?_
    refine Ok.region Try.tok ?_
    obtain ⟨hc1, h⟩ := chk_some h
    refine Or.inr ⟨rowsLen_map (f := cU8) (n := 1) (fun _ => rfl) p_b, app_b2 (f := cU8) (l := (([] : List UInt8))) (l' := p_b) hc1, _, (List.map_append (f := cU8) (l₁ := (([] : List UInt8))) (l₂ := p_b)).symm, ?_⟩
    refine Ok.wk (Wk.tab (L := [(2, (.o 5))]) (H' := [(5, .own 5 1 (List.map cU8 ((([] : List UInt8) ++ p_b))))]) ⟨Le.refl _, True.intro⟩ ⟨⟨_, rfl, .refl _⟩, True.intro⟩ rfl) ?_
    refine Ok.ret ?_
    cases h
    exact (.inr ⟨_, rfl, rfl⟩)
theorem w_bytes_Clone {p_b : List UInt8} {r : (List UInt8)} (h : bytes_Clone p_b = some r) : Pure Try.prog 37 [(.s (List.map cU8 p_b))] (.s (List.map cU8 r)) := (wo_bytes_Clone h).pure

theorem w_disk_Write {p_d : api_Disk} {p_at : Int} {p_data : List UInt8} {r : api_Disk × Int} (h : disk_Write p_d p_at p_data = some r) : Pure Try.prog 19 [(.a [(.s (List.map c_api_Page p_d.Synced)), (.s (List.map c_api_Page p_d.Loose)), (vb p_d.Down)]), (vi p_at), (.s (List.map cU8 p_data))] (.t [(.a [(.s (List.map c_api_Page r.1.Synced)), (.s (List.map c_api_Page r.1.Loose)), (vb r.1.Down)]), (vi r.2)]) := by
  refine pure_of_ok (n := 29) (c := (Try.f19.body.getD .skip)) Try.tok Try.func19 (by kernel_rfl) rfl rfl (Nat.le_of_ble_eq_true rfl) ?_
  unfold disk_Write at h
  refine Ok.wk (Wk.tab (L := [(0, (.a [(.s (List.map c_api_Page p_d.Synced)), (.s (List.map c_api_Page p_d.Loose)), (vb p_d.Down)])), (1, (vi p_at)), (2, (.s (List.map cU8 p_data)))]) (H' := []) ⟨Le.refl _, Le.refl _, Le.refl _, True.intro⟩ True.intro rfl) ?_
  refine Ok.seq ?_
  refine Ok.region Try.tok ?_
  refine Ok.wk (Wk.tab (L := [(1, (vi p_at)), (2, (.s (List.map cU8 p_data))), (3, (.b 3 0)), (6, (.b 6 0))]) (H' := [(3, .box [(.s (List.map c_api_Page p_d.Synced)), (.s (List.map c_api_Page p_d.Loose)), (vb p_d.Down)]), (6, .box [(.v (.slice none 0 0)), (.v (.slice none 0 0)), (vb false)])]) ⟨Le.refl _, Le.refl _, Le.refl _, Le.refl _, True.intro⟩ ⟨⟨_, rfl, .refl _⟩, ⟨_, rfl, .refl _⟩, True.intro⟩ rfl) ?_
  refine Ok.seq ?_
  refine Ok.block ?_
  refine Ok.seq ?_
  refine Ok.region Try.tok ?_
  refine ⟨_, rfl, ?_⟩
  refine Ok.wk (Wk.tab (L := [(1, (vi p_at)), (2, (.s (List.map cU8 p_data))), (3, (.b 3 0)), (6, (.b 6 0)), (8, (vb p_d.Down))]) (H' := [(3, .box [(.s (List.map c_api_Page p_d.Synced)), (.s (List.map c_api_Page p_d.Loose)), (vb p_d.Down)]), (6, .box [(.v (.slice none 0 0)), (.v (.slice none 0 0)), (vb false)])]) ⟨Le.refl _, Le.refl _, Le.refl _, Le.refl _, Le.refl _, True.intro⟩ ⟨⟨_, rfl, .refl _⟩, ⟨_, rfl, .refl _⟩, True.intro⟩ rfl) ?_
  refine Ok.cond (d := 8) (b := p_d.Down) rfl h (fun hb h => ?_) fun hb h => ?_
  · refine Ok.seq ?_
    refine Ok.region Try.tok ?_
    refine ⟨_, rfl, ⟨_, rfl, ?_⟩⟩
    refine Ok.wk (Wk.tab (L := [(6, (.b 6 0)), (7, (vi (40)))]) (H' := [(6, .box [(.s (List.map c_api_Page p_d.Synced)), (.s (List.map c_api_Page p_d.Loose)), (vb p_d.Down)])]) ⟨Le.refl _, Le.refl _, True.intro⟩ ⟨⟨_, rfl, .refl _⟩, True.intro⟩ rfl) ?_
    refine Ok.ret ?_
    cases h
    exact ⟨_, rfl, (Fz.t (.cons (Fz.imm rfl) (.cons Fz.v .nil)))⟩
  · refine Ok.seq ?_
    refine Ok.region Try.tok ?_
    obtain ⟨x1, hx1, h⟩ := bindS h
    refine CallOk.call (w_disk_may hx1) (LeL.refl _) ?_
    refine Ok.wk (Wk.tab (L := [(1, (vi p_at)), (2, (.s (List.map cU8 p_data))), (3, (.b 3 0)), (6, (.b 6 0)), (12, (vb ((!x1))))]) (H' := [(3, .box [(.s (List.map c_api_Page p_d.Synced)), (.s (List.map c_api_Page p_d.Loose)), (vb p_d.Down)]), (6, .box [(.v (.slice none 0 0)), (.v (.slice none 0 0)), (vb false)])]) ⟨Le.refl _, Le.refl _, Le.refl _, Le.refl _, Le.refl _, True.intro⟩ ⟨⟨_, rfl, .refl _⟩, ⟨_, rfl, .refl _⟩, True.intro⟩ rfl) ?_
    refine Ok.cond (d := 12) (b := (!x1)) rfl h (fun hb h => ?_) fun hb h => ?_
    · refine Ok.seq ?_
      refine Ok.region Try.tok ?_
      refine ⟨_, rfl, ⟨_, rfl, ?_⟩⟩
      refine Ok.wk (Wk.tab (L := [(6, (.b 6 0)), (7, (vi (1)))]) (H' := [(6, .box [(.s (List.map c_api_Page p_d.Synced)), (.s (List.map c_api_Page p_d.Loose)), (vb p_d.Down)])]) ⟨Le.refl _, Le.refl _, True.intro⟩ ⟨⟨_, rfl, .refl _⟩, True.intro⟩ rfl) ?_
      refine Ok.ret ?_
      cases h
      exact ⟨_, rfl, (Fz.t (.cons (Fz.imm rfl) (.cons Fz.v .nil)))⟩
    · refine Ok.skip ?_
      refine Ok.seq ?_
      refine Ok.region Try.tok ?_
      obtain ⟨x2, hx2, h⟩ := bindS h
      refine ⟨_, rfl, ?_⟩
      refine CallOk.own (D := 20) (wo_slices_Clone_api_Page_api_Page hx2) (LeL.refl _) rfl ?_
      obtain ⟨x3, hx3, h⟩ := bindS h
      refine CallOk.call (w_bytes_Clone hx3) (LeL.refl _) ?_
      obtain ⟨hc1, h⟩ := chk_some h
      refine Or.inl ⟨rowsLen_map (f := c_api_Page) (n := 2) (fun _ => rfl) ([(⟨p_at, x3⟩ : api_Page)]), app_b2 (f := c_api_Page) (l := x2) (l' := ([(⟨p_at, x3⟩ : api_Page)])) hc1, _, (List.map_append (f := c_api_Page) (l₁ := x2) (l₂ := ([(⟨p_at, x3⟩ : api_Page)]))).symm, ⟨_, rfl, ?_⟩⟩
      refine Ok.wk (Wk.tab (L := [(3, (.b 3 0)), (6, (.b 6 0))]) (H' := [(3, .box [(.s (List.map c_api_Page p_d.Synced)), (.o 20), (vb p_d.Down)]), (20, .own 48 2 (List.map c_api_Page ((x2 ++ [(⟨p_at, x3⟩ : api_Page)])))), (6, .box [(.v (.slice none 0 0)), (.v (.slice none 0 0)), (vb false)])]) ⟨Le.refl _, Le.refl _, True.intro⟩ ⟨⟨_, rfl, .refl _⟩, ⟨_, rfl, .refl _⟩, ⟨_, rfl, .refl _⟩, True.intro⟩ rfl) ?_
      refine Ok.seq ?_
      refine Ok.region Try.tok ?_
      refine ⟨_, rfl, ⟨_, rfl, ?_⟩⟩
      refine Ok.wk (Wk.tab (L := [(6, (.b 6 0)), (7, (vi (0)))]) (H' := [(6, .box [(.s (List.map c_api_Page p_d.Synced)), (.o 20), (vb p_d.Down)]), (20, .own 48 2 (List.map c_api_Page ((x2 ++ [(⟨p_at, x3⟩ : api_Page)]))))]) ⟨Le.refl _, Le.refl _, True.intro⟩ ⟨⟨_, rfl, .refl _⟩, ⟨_, rfl, .refl _⟩, True.intro⟩ rfl) ?_
      refine Ok.ret ?_
      cases h
      exact ⟨_, rfl, (Fz.t (.cons (Fz.a (.cons Fz.s (.cons (Fz.o rfl) (.cons Fz.v .nil)))) (.cons Fz.v .nil)))⟩

theorem wo_slices_Grow_api_Page_api_Page__nil {p_n : Int} {r : (List api_Page)} (h : slices_Grow_api_Page_api_Page__nil p_n = some r) : POwn Try.prog 45 [(.v (.slice none 0 0)), (vi p_n)] 48 2 (List.map c_api_Page r) := by
  refine pown_of_ok (n := 27) (c := (Try.f45.body.getD .skip)) Try.tok Try.func45 (by kernel_rfl) rfl rfl (Nat.le_of_ble_eq_true rfl) ?_
  unfold slices_Grow_api_Page_api_Page__nil at h
  refine Ok.wk (Wk.tab (L := [(0, (.v (.slice none 0 0))), (1, (vi p_n))]) (H' := []) ⟨Le.refl _, Le.refl _, True.intro⟩ True.intro rfl) ?_
  refine Ok.seq ?_
  refine Ok.region Try.tok ?_
  refine Ok.wk (Wk.tab (L := [(0, (.v (.slice none 0 0))), (1, (vi p_n))]) (H' := []) ⟨Le.refl _, Le.refl _, True.intro⟩ True.intro rfl) ?_
  obtain ⟨v1, hv1, h⟩ := bindS h
  refine Ok.seqw ⟨Cat.tab [(0, (.v (.slice none 0 0))), (1, (vi p_n))], []⟩ ?_ ?_
  · refine Ok.seq ?_
    refine Ok.region Try.tok ?_
    refine Ok.wk (Wk.tab (L := [(0, (.v (.slice none 0 0))), (1, (vi p_n)), (6, (vb ((decide (p_n < 0)))))]) (H' := []) ⟨Le.refl _, Le.refl _, Le.refl _, True.intro⟩ True.intro rfl) ?_
    refine Ok.cond (d := 6) (b := (decide (p_n < 0))) rfl hv1 (fun hb hv1 => ?_) fun hb hv1 => ?_
    · cases hv1
    · refine Ok.skip ?_
      cases hv1
      exact Wk.tab ⟨Le.refl _, Le.refl _, True.intro⟩ True.intro rfl
  obtain ⟨v2, hv2, h⟩ := bindS h
  refine Ok.seqw ⟨Cat.tab [(0, (.o 22))], [(22, .own 48 2 (List.map c_api_Page v2))]⟩ ?_ ?_
  · refine Ok.seq ?_
    refine Ok.region Try.tok ?_
    obtain ⟨hc1, hv2⟩ := chk_some hv2
    refine (Or.inl ⟨by decide, (Or.inl ⟨hc1, ?_⟩)⟩)
    refine Ok.wk (Wk.tab (L := [(0, (.v (.slice none 0 0))), (1, (vi ((p_n - 0))))]) (H' := []) ⟨Le.refl _, Le.refl _, True.intro⟩ True.intro rfl) ?_
    refine Ok.seq ?_
    refine Ok.region Try.tok ?_
    refine Ok.wk (Wk.tab (L := [(0, (.v (.slice none 0 0))), (1, (vi ((p_n - 0)))), (16, (vb ((decide ((p_n - 0) > 0)))))]) (H' := []) ⟨Le.refl _, Le.refl _, Le.refl _, True.intro⟩ True.intro rfl) ?_
    refine Ok.cond (d := 16) (b := (decide ((p_n - 0) > 0))) rfl hv2 (fun hb hv2 => ?_) fun hb hv2 => ?_
    · refine Ok.region Try.tok ?_
      obtain ⟨hc2, hv2⟩ := chk_some hv2
      obtain ⟨hc3, hv2⟩ := chk_some hv2
      refine ⟨0, rfl, ⟨Nat.le_refl _, Nat.le_refl _, ⟨_, mk_nat hc2, hc2.2, _, (List.map_replicate (f := c_api_Page) (a := ((⟨0, []⟩ : api_Page) : api_Page))).symm, ⟨_, sl_nat hc3.1, sl_own hc3, _, (List.map_take (f := c_api_Page)).symm, ?_⟩⟩⟩⟩
      cases hv2
      exact Wk.tab ⟨Le.refl _, True.intro⟩ ⟨⟨_, rfl, .refl _⟩, True.intro⟩ rfl
    · refine Ok.skip ?_
      cases hv2
      exact (Wk.own0 (t := 0) (id := 22) (E := 48) (K := 2) rfl rfl).trans (Wk.tab ⟨Le.refl _, True.intro⟩ ⟨⟨_, rfl, .refl _⟩, True.intro⟩ rfl)
  refine Ok.seq ?_
  refine Ok.region Try.tok ?_
  refine Ok.wk (Wk.tab (L := [(4, (.o 22))]) (H' := [(22, .own 48 2 (List.map c_api_Page v2))]) ⟨Le.refl _, True.intro⟩ ⟨⟨_, rfl, .refl _⟩, True.intro⟩ rfl) ?_
  refine Ok.ret ?_
  cases h
  exact (.inr ⟨_, rfl, rfl⟩)
theorem w_slices_Grow_api_Page_api_Page__nil {p_n : Int} {r : (List api_Page)} (h : slices_Grow_api_Page_api_Page__nil p_n = some r) : Pure Try.prog 45 [(.v (.slice none 0 0)), (vi p_n)] (.s (List.map c_api_Page r)) := (wo_slices_Grow_api_Page_api_Page__nil h).pure

theorem wo_slices_Concat_api_Page_api_Page {p_slices : List (List api_Page)} {r : (List api_Page)} (h : slices_Concat_api_Page_api_Page p_slices = some r) : POwn Try.prog 34 [(.s (List.map cL_c_api_Page p_slices))] 48 2 (List.map c_api_Page r) := by
  refine pown_of_ok (n := 36) (c := (Try.f34.body.getD .skip)) Try.tok Try.func34 (by kernel_rfl) rfl rfl (Nat.le_of_ble_eq_true rfl) ?_
  unfold slices_Concat_api_Page_api_Page at h
  refine Ok.wk (Wk.tab (L := [(0, (.s (List.map cL_c_api_Page p_slices)))]) (H' := []) ⟨Le.refl _, True.intro⟩ True.intro rfl) ?_
  refine Ok.seq ?_
  refine Ok.region Try.tok ?_
  refine Ok.wk (Wk.tab (L := [(0, (.s (List.map cL_c_api_Page p_slices)))]) (H' := []) ⟨Le.refl _, True.intro⟩ True.intro rfl) ?_
  refine Ok.seq ?_
  refine Ok.region Try.tok ?_
  refine Ok.wk (Wk.tab (L := [(0, (.s (List.map cL_c_api_Page p_slices))), (3, (vi (0)))]) (H' := []) ⟨Le.refl _, Le.refl _, True.intro⟩ True.intro rfl) ?_
  obtain ⟨v1, hv1, h⟩ := bindS h
  refine Ok.seqw ⟨Cat.tab [(0, (.s (List.map cL_c_api_Page p_slices))), (3, (vi v1))], []⟩ ?_ ?_
  · refine Ok.seq ?_
    refine Ok.region Try.tok ?_
    refine ⟨_, List.length_map _, fun _ => ?_⟩
    refine Ok.wk (Wk.tab (L := [(0, (.s (List.map cL_c_api_Page p_slices))), (3, (vi (0))), (9, (.s (List.map cL_c_api_Page p_slices))), (10, (vi ((p_slices.length : Int)))), (11, (vi (0)))]) (H' := []) ⟨Le.refl _, Le.refl _, Le.refl _, Le.refl _, Le.refl _, True.intro⟩ True.intro rfl) ?_
    refine Ok.block ?_
    refine Ok.loop (fun (s1 : Int × Int) => ⟨Cat.tab [(0, (.s (List.map cL_c_api_Page p_slices))), (3, (vi s1.1)), (9, (.s (List.map cL_c_api_Page p_slices))), (10, (vi ((p_slices.length : Int)))), (11, (vi s1.2))], []⟩) (slices_Concat_api_Page_api_Page_B1 p_slices) (s0 := (0, 0)) hv1 (Wk.tab ⟨Le.refl _, Le.refl _, Le.refl _, Le.refl _, Le.refl _, True.intro⟩ True.intro rfl) ?_
    intro s1 y1 hB1 hy1
    unfold slices_Concat_api_Page_api_Page_B1 at hB1
    refine Ok.seq ?_
    refine Ok.region Try.tok ?_
    refine Ok.wk (Wk.tab (L := [(0, (.s (List.map cL_c_api_Page p_slices))), (3, (vi s1.1)), (9, (.s (List.map cL_c_api_Page p_slices))), (10, (vi ((p_slices.length : Int)))), (11, (vi s1.2)), (12, (vb ((decide (s1.2 < (p_slices.length : Int))))))]) (H' := []) ⟨Le.refl _, Le.refl _, Le.refl _, Le.refl _, Le.refl _, Le.refl _, True.intro⟩ True.intro rfl) ?_
    refine Ok.seq ?_
    refine Ok.cond (d := 12) (b := (decide (s1.2 < (p_slices.length : Int)))) rfl hB1 (fun hb hB1 => ?_) fun hb hB1 => ?_
    · refine Ok.skip ?_
      obtain ⟨v2, hv2, hB1⟩ := bindS hB1
      refine Ok.seqw ⟨Cat.tab [(0, (.s (List.map cL_c_api_Page p_slices))), (3, (vi v2)), (9, (.s (List.map cL_c_api_Page p_slices))), (10, (vi ((p_slices.length : Int)))), (11, (vi s1.2))], []⟩ ?_ ?_
      · refine Ok.block ?_
        refine Ok.seq ?_
        refine Ok.region Try.tok ?_
        obtain ⟨x1, hx1, hv2⟩ := bindS hv2
        refine ⟨_, idx_nat hx1, _, idx_row hx1, ⟨_, rfl, ?_⟩⟩
        refine Ok.wk (Wk.tab (L := [(0, (.s (List.map cL_c_api_Page p_slices))), (3, (vi s1.1)), (5, (.s (List.map c_api_Page x1))), (9, (.s (List.map cL_c_api_Page p_slices))), (10, (vi ((p_slices.length : Int)))), (11, (vi s1.2))]) (H' := []) ⟨Le.refl _, Le.refl _, Le.refl _, Le.refl _, Le.refl _, Le.refl _, True.intro⟩ True.intro rfl) ?_
        refine Ok.seq ?_
        refine Ok.region Try.tok ?_
        obtain ⟨hc1, hv2⟩ := chk_some hv2
        refine ⟨_, List.length_map _, fun _ => (Or.inl ⟨hc1, ?_⟩)⟩
        refine Ok.wk (Wk.tab (L := [(0, (.s (List.map cL_c_api_Page p_slices))), (3, (vi ((s1.1 + (x1.length : Int))))), (9, (.s (List.map cL_c_api_Page p_slices))), (10, (vi ((p_slices.length : Int)))), (11, (vi s1.2))]) (H' := []) ⟨Le.refl _, Le.refl _, Le.refl _, Le.refl _, Le.refl _, True.intro⟩ True.intro rfl) ?_
        refine Ok.seq ?_
        refine Ok.region Try.tok ?_
        refine Ok.wk (Wk.tab (L := [(0, (.s (List.map cL_c_api_Page p_slices))), (3, (vi ((s1.1 + (x1.length : Int))))), (9, (.s (List.map cL_c_api_Page p_slices))), (10, (vi ((p_slices.length : Int)))), (11, (vi s1.2)), (20, (vb ((decide ((s1.1 + (x1.length : Int)) < 0)))))]) (H' := []) ⟨Le.refl _, Le.refl _, Le.refl _, Le.refl _, Le.refl _, Le.refl _, True.intro⟩ True.intro rfl) ?_
        refine Ok.cond (d := 20) (b := (decide ((s1.1 + (x1.length : Int)) < 0))) rfl hv2 (fun hb hv2 => ?_) fun hb hv2 => ?_
        · cases hv2
        · refine Ok.skip ?_
          cases hv2
          exact Wk.tab ⟨Le.refl _, Le.refl _, Le.refl _, Le.refl _, Le.refl _, True.intro⟩ True.intro rfl
      refine Ok.region Try.tok ?_
      obtain ⟨hc2, hB1⟩ := chk_some hB1
      refine (Or.inl ⟨hc2, ?_⟩)
      exact ⟨_, (Option.some.inj hB1).symm, Wk.tab ⟨Le.refl _, Le.refl _, Le.refl _, Le.refl _, Le.refl _, True.intro⟩ True.intro rfl⟩
    · refine Ok.exit ?_
      have hB1 := out_ret hB1 hy1
      cases hB1
      exact Wk.tab ⟨Le.refl _, Le.refl _, True.intro⟩ True.intro rfl
  refine Ok.seq ?_
  refine Ok.region Try.tok ?_
  obtain ⟨x2, hx2, h⟩ := bindS h
  refine CallOk.own (D := 24) (wo_slices_Grow_api_Page_api_Page__nil hx2) (LeL.refl _) rfl ?_
  refine Ok.wk (Wk.tab (L := [(0, (.s (List.map cL_c_api_Page p_slices))), (6, (.o 24))]) (H' := [(24, .own 48 2 (List.map c_api_Page x2))]) ⟨Le.refl _, Le.refl _, True.intro⟩ ⟨⟨_, rfl, .refl _⟩, True.intro⟩ rfl) ?_
  obtain ⟨v3, hv3, h⟩ := bindS h
  refine Ok.seqw ⟨Cat.tab [(6, (.o 24))], [(24, .own 48 2 (List.map c_api_Page v3))]⟩ ?_ ?_
  · refine Ok.seq ?_
    refine Ok.region Try.tok ?_
    refine ⟨_, List.length_map _, fun _ => ?_⟩
    refine Ok.wk (Wk.tab (L := [(6, (.o 24)), (25, (.s (List.map cL_c_api_Page p_slices))), (26, (vi ((p_slices.length : Int)))), (27, (vi (0)))]) (H' := [(24, .own 48 2 (List.map c_api_Page x2))]) ⟨Le.refl _, Le.refl _, Le.refl _, Le.refl _, True.intro⟩ ⟨⟨_, rfl, .refl _⟩, True.intro⟩ rfl) ?_
    refine Ok.block ?_
    refine Ok.loop (fun (s2 : Int × (List api_Page)) => ⟨Cat.tab [(6, (.o 24)), (25, (.s (List.map cL_c_api_Page p_slices))), (26, (vi ((p_slices.length : Int)))), (27, (vi s2.1))], [(24, .own 48 2 (List.map c_api_Page s2.2))]⟩) (slices_Concat_api_Page_api_Page_B2 p_slices) (s0 := (0, x2)) hv3 (Wk.tab ⟨Le.refl _, Le.refl _, Le.refl _, Le.refl _, True.intro⟩ ⟨⟨_, rfl, .refl _⟩, True.intro⟩ rfl) ?_
    intro s2 y2 hB2 hy2
    unfold slices_Concat_api_Page_api_Page_B2 at hB2
    refine Ok.seq ?_
    refine Ok.region Try.tok ?_
    refine Ok.wk (Wk.tab (L := [(6, (.o 24)), (25, (.s (List.map cL_c_api_Page p_slices))), (26, (vi ((p_slices.length : Int)))), (27, (vi s2.1)), (28, (vb ((decide (s2.1 < (p_slices.length : Int))))))]) (H' := [(24, .own 48 2 (List.map c_api_Page s2.2))]) ⟨Le.refl _, Le.refl _, Le.refl _, Le.refl _, Le.refl _, True.intro⟩ ⟨⟨_, rfl, .refl _⟩, True.intro⟩ rfl) ?_
    refine Ok.seq ?_
    refine Ok.cond (d := 28) (b := (decide (s2.1 < (p_slices.length : Int)))) rfl hB2 (fun hb hB2 => ?_) fun hb hB2 => ?_
    · refine Ok.skip ?_
      refine Ok.seq ?_
      refine Ok.block ?_
      refine Ok.seq ?_
      refine Ok.region Try.tok ?_
      obtain ⟨x3, hx3, hB2⟩ := bindS hB2
      refine ⟨_, idx_nat hx3, _, idx_row hx3, ⟨_, rfl, ?_⟩⟩
      refine Ok.wk (Wk.tab (L := [(6, (.o 24)), (8, (.s (List.map c_api_Page x3))), (25, (.s (List.map cL_c_api_Page p_slices))), (26, (vi ((p_slices.length : Int)))), (27, (vi s2.1))]) (H' := [(24, .own 48 2 (List.map c_api_Page s2.2))]) ⟨Le.refl _, Le.refl _, Le.refl _, Le.refl _, Le.refl _, True.intro⟩ ⟨⟨_, rfl, .refl _⟩, True.intro⟩ rfl) ?_
      refine Ok.region Try.tok ?_
      obtain ⟨hc3, hB2⟩ := chk_some hB2
      refine ⟨rowsLen_map (f := c_api_Page) (n := 2) (fun _ => rfl) x3, app_b2 (f := c_api_Page) (l := s2.2) (l' := x3) hc3, _, (List.map_append (f := c_api_Page) (l₁ := s2.2) (l₂ := x3)).symm, ?_⟩
      refine Ok.wk (Wk.tab (L := [(6, (.o 24)), (25, (.s (List.map cL_c_api_Page p_slices))), (26, (vi ((p_slices.length : Int)))), (27, (vi s2.1))]) (H' := [(24, .own 48 2 (List.map c_api_Page ((s2.2 ++ x3))))]) ⟨Le.refl _, Le.refl _, Le.refl _, Le.refl _, True.intro⟩ ⟨⟨_, rfl, .refl _⟩, True.intro⟩ rfl) ?_
      refine Ok.region Try.tok ?_
      obtain ⟨hc4, hB2⟩ := chk_some hB2
      refine (Or.inl ⟨hc4, ?_⟩)
      exact ⟨_, (Option.some.inj hB2).symm, Wk.tab ⟨Le.refl _, Le.refl _, Le.refl _, Le.refl _, True.intro⟩ ⟨⟨_, rfl, .refl _⟩, True.intro⟩ rfl⟩
    · refine Ok.exit ?_
      have hB2 := out_ret hB2 hy2
      cases hB2
      exact Wk.tab ⟨Le.refl _, True.intro⟩ ⟨⟨_, rfl, .refl _⟩, True.intro⟩ rfl
  refine Ok.seq ?_
  refine Ok.region Try.tok ?_
  refine Ok.wk (Wk.tab (L := [(2, (.o 24))]) (H' := [(24, .own 48 2 (List.map c_api_Page v3))]) ⟨Le.refl _, True.intro⟩ ⟨⟨_, rfl, .refl _⟩, True.intro⟩ rfl) ?_
  refine Ok.ret ?_
  cases h
  exact (.inr ⟨_, rfl, rfl⟩)
theorem w_slices_Concat_api_Page_api_Page {p_slices : List (List api_Page)} {r : (List api_Page)} (h : slices_Concat_api_Page_api_Page p_slices = some r) : Pure Try.prog 34 [(.s (List.map cL_c_api_Page p_slices))] (.s (List.map c_api_Page r)) := (wo_slices_Concat_api_Page_api_Page h).pure

theorem w_slices_Reverse_api_Page_api_Page {self : List api_Page} {r : Unit × List api_Page} (h : slices_Reverse_api_Page_api_Page self = some r) : PChg Try.prog 35 [(.o 1000)] (.own 48 2 (List.map c_api_Page self)) (fun x c => x = (.t []) ∧ c = .own 48 2 (List.map c_api_Page r.2)) := by
  refine pchg_of_ok (n := 28) (c := (Try.f35.body.getD .skip)) Try.tok Try.func35 (by kernel_rfl) rfl rfl (Nat.le_of_ble_eq_true rfl) ?_
  unfold slices_Reverse_api_Page_api_Page at h
  refine Ok.wk (Wk.tab (L := [(0, (.o 1000))]) (H' := [(1000, .own 48 2 (List.map c_api_Page self))]) ⟨Le.refl _, True.intro⟩ ⟨⟨_, rfl, .refl _⟩, True.intro⟩ rfl) ?_
  refine Ok.seq ?_
  refine Ok.region Try.tok ?_
  obtain ⟨hc1, h⟩ := chk_some h
  refine ⟨_, List.length_map _, fun _ => (Or.inl ⟨hc1, ?_⟩)⟩
  refine Ok.wk (Wk.tab (L := [(0, (.o 1000)), (2, (vi (0))), (3, (vi (((self.length : Int) - 1))))]) (H' := [(1000, .own 48 2 (List.map c_api_Page self))]) ⟨Le.refl _, Le.refl _, Le.refl _, True.intro⟩ ⟨⟨_, rfl, .refl _⟩, True.intro⟩ rfl) ?_
  refine Ok.block ?_
  refine Ok.loop (fun (s1 : Int × Int × (List api_Page)) => ⟨Cat.tab [(0, (.o 1000)), (2, (vi s1.1)), (3, (vi s1.2.1))], [(1000, .own 48 2 (List.map c_api_Page s1.2.2))]⟩) (slices_Reverse_api_Page_api_Page_B1) (s0 := (0, ((self.length : Int) - 1), self)) h (Wk.tab ⟨Le.refl _, Le.refl _, Le.refl _, True.intro⟩ ⟨⟨_, rfl, .refl _⟩, True.intro⟩ rfl) ?_
  intro s1 y1 hB1 hy1
  unfold slices_Reverse_api_Page_api_Page_B1 at hB1
  refine Ok.seq ?_
  refine Ok.seq ?_
  refine Ok.region Try.tok ?_
  refine Ok.wk (Wk.tab (L := [(0, (.o 1000)), (2, (vi s1.1)), (3, (vi s1.2.1)), (9, (vb ((decide (s1.1 < s1.2.1)))))]) (H' := [(1000, .own 48 2 (List.map c_api_Page s1.2.2))]) ⟨Le.refl _, Le.refl _, Le.refl _, Le.refl _, True.intro⟩ ⟨⟨_, rfl, .refl _⟩, True.intro⟩ rfl) ?_
  refine Ok.cond (d := 9) (b := (decide (s1.1 < s1.2.1))) rfl hB1 (fun hb hB1 => ?_) fun hb hB1 => ?_
  · refine Ok.skip ?_
    refine Ok.seq ?_
    refine Ok.block ?_
    refine Ok.draw2 (m := 13) (late := [2, 3]) (MD := ⟨[]⟩) (CH := ⟨[]⟩) Try.tok Try.mixed (by kernel_rfl) ?_
    obtain ⟨x1, hx1, hB1⟩ := bindS hB1
    obtain ⟨x2, hx2, hB1⟩ := bindS hB1
    obtain ⟨x3, hx3, hB1⟩ := bindS hB1
    refine ⟨_, rfl, ⟨_, rfl, ⟨_, rfl, ⟨_, rfl, ⟨_, rfl, ⟨_, rfl, ⟨_, ⟨_, idx_nat hx1, idx_ltm hx1, rfl⟩, ⟨_, ⟨_, idx_row hx1, rfl, _, rfl, rfl⟩, ⟨_, rfl, ⟨_, rfl, ⟨_, ⟨_, idx_nat hx2, idx_ltm hx2, rfl⟩, ⟨_, ⟨_, idx_row hx2, rfl, _, rfl, rfl⟩, ⟨_, ⟨_, idx_nat hx3, idx_ltm hx3, rfl⟩, ⟨True.intro, ?_⟩⟩⟩⟩⟩⟩⟩⟩⟩⟩⟩⟩⟩⟩
    obtain ⟨x4, hx4, hB1⟩ := bindS hB1
    refine ⟨_, idx_row hx3, rfl, _, rfl, _, set_row (f := c_api_Page) (x := x1), ⟨⟨⟨_, rfl, rfl⟩, ⟨_, rfl, rfl⟩, True.intro⟩, ⟨_, idx_nat hx4, idx_ltm hx4, ⟨_, idx_row hx4, rfl, _, rfl, _, set_row (f := c_api_Page) (x := x2), ?_⟩⟩⟩⟩
    refine Ok.wk (Wk.tab (L := [(0, (.o 1000)), (2, (vi s1.1)), (3, (vi s1.2.1))]) (H' := [(1000, .own 48 2 (List.map c_api_Page ((((s1.2.2.set s1.1.toNat x1)).set s1.2.1.toNat x2))))]) ⟨Le.refl _, Le.refl _, Le.refl _, True.intro⟩ ⟨⟨_, rfl, .refl _⟩, True.intro⟩ rfl) ?_
    refine Ok.region Try.tok ?_
    obtain ⟨hc2, hB1⟩ := chk_some hB1
    obtain ⟨hc3, hB1⟩ := chk_some hB1
    refine (Or.inl ⟨hc2, (Or.inl ⟨hc3, ?_⟩)⟩)
    exact ⟨_, (Option.some.inj hB1).symm, Wk.tab ⟨Le.refl _, Le.refl _, Le.refl _, True.intro⟩ ⟨⟨_, rfl, .refl _⟩, True.intro⟩ rfl⟩
  · refine Ok.exit ?_
    have hB1 := out_ret hB1 hy1
    cases hB1
    exact ⟨_, _, ⟨rfl, rfl⟩, rfl, rfl, (Fz.t .nil)⟩

theorem w_disk_Read_1 {p_p : api_Page} {p_a1_0 : Int} {r : Bool} (h : disk_Read_1 p_p p_a1_0 = some r) : Pure Try.prog 36 [(.a [(vi p_p.At), (.s (List.map cU8 p_p.Data))]), (.p [(vi p_a1_0)])] (vb r) := by
  refine pure_of_ok (n := 8) (c := (Try.f36.body.getD .skip)) Try.tok Try.func36 (by kernel_rfl) rfl rfl (Nat.le_of_ble_eq_true rfl) ?_
  unfold disk_Read_1 at h
  refine Ok.wk (Wk.tab (L := [(0, (.a [(vi p_p.At), (.s (List.map cU8 p_p.Data))])), (1, (.p [(vi p_a1_0)]))]) (H' := []) ⟨Le.refl _, Le.refl _, True.intro⟩ True.intro rfl) ?_
  refine Ok.seq ?_
  refine Ok.region Try.tok ?_
  refine Ok.wk (Wk.tab (L := [(1, (.p [(vi p_a1_0)])), (2, (.b 2 0))]) (H' := [(2, .box [(vi p_p.At), (.s (List.map cU8 p_p.Data))])]) ⟨Le.refl _, Le.refl _, True.intro⟩ ⟨⟨_, rfl, .refl _⟩, True.intro⟩ rfl) ?_
  refine Ok.seq ?_
  refine Ok.region Try.tok ?_
  refine ⟨_, rfl, ⟨_, rfl, ?_⟩⟩
  refine Ok.wk (Wk.tab (L := [(3, (vb ((p_p.At == p_a1_0))))]) (H' := []) ⟨Le.refl _, True.intro⟩ True.intro rfl) ?_
  refine Ok.ret ?_
  cases h
  exact Fz.v

theorem w_slices_IndexFunc_api_Page_api_Page__disk_Read_1 {p_s : List api_Page} {p_f_c0_0 : Int} {r : Int} (h : slices_IndexFunc_api_Page_api_Page__disk_Read_1 p_s p_f_c0_0 = some r) : Pure Try.prog 41 [(.s (List.map c_api_Page p_s)), (.c (.func 36) [] [(.p [(vi p_f_c0_0)])])] (vi r) := by
  refine pure_of_ok (n := 19) (c := (Try.f41.body.getD .skip)) Try.tok Try.func41 (by kernel_rfl) rfl rfl (Nat.le_of_ble_eq_true rfl) ?_
  unfold slices_IndexFunc_api_Page_api_Page__disk_Read_1 at h
  refine Ok.wk (Wk.tab (L := [(0, (.s (List.map c_api_Page p_s))), (1, (.c (.func 36) [] [(.p [(vi p_f_c0_0)])]))]) (H' := []) ⟨Le.refl _, Le.refl _, True.intro⟩ True.intro rfl) ?_
  refine Ok.seq ?_
  refine Ok.region Try.tok ?_
  refine Ok.wk (Wk.tab (L := [(0, (.s (List.map c_api_Page p_s))), (1, (.c (.func 36) [] [(.p [(vi p_f_c0_0)])]))]) (H' := []) ⟨Le.refl _, Le.refl _, True.intro⟩ True.intro rfl) ?_
  refine Ok.seqj (fun v1 => ⟨Cat.tab [], []⟩) (fun v1 => slices_IndexFunc_api_Page_api_Page__disk_Read_1_J1 v1 = some r) ?_ ?_
  · refine Ok.seq ?_
    refine Ok.region Try.tok ?_
    refine ⟨_, List.length_map _, fun _ => ?_⟩
    refine Ok.wk (Wk.tab (L := [(0, (.s (List.map c_api_Page p_s))), (1, (.c (.func 36) [] [(.p [(vi p_f_c0_0)])])), (7, (vi ((p_s.length : Int)))), (8, (vi (0)))]) (H' := []) ⟨Le.refl _, Le.refl _, Le.refl _, Le.refl _, True.intro⟩ True.intro rfl) ?_
    refine Ok.block ?_
    refine Ok.loop (fun (s1 : Int) => ⟨Cat.tab [(0, (.s (List.map c_api_Page p_s))), (1, (.c (.func 36) [] [(.p [(vi p_f_c0_0)])])), (7, (vi ((p_s.length : Int)))), (8, (vi s1))], []⟩) (slices_IndexFunc_api_Page_api_Page__disk_Read_1_B1 p_s p_f_c0_0) (s0 := 0) h (Wk.tab ⟨Le.refl _, Le.refl _, Le.refl _, Le.refl _, True.intro⟩ True.intro rfl) ?_
    intro s1 y1 hB1 hy1
    unfold slices_IndexFunc_api_Page_api_Page__disk_Read_1_B1 at hB1
    refine Ok.seq ?_
    refine Ok.region Try.tok ?_
    refine Ok.wk (Wk.tab (L := [(0, (.s (List.map c_api_Page p_s))), (1, (.c (.func 36) [] [(.p [(vi p_f_c0_0)])])), (7, (vi ((p_s.length : Int)))), (8, (vi s1)), (9, (vb ((decide (s1 < (p_s.length : Int))))))]) (H' := []) ⟨Le.refl _, Le.refl _, Le.refl _, Le.refl _, Le.refl _, True.intro⟩ True.intro rfl) ?_
    refine Ok.seq ?_
    refine Ok.cond (d := 9) (b := (decide (s1 < (p_s.length : Int)))) rfl hB1 (fun hb hB1 => ?_) fun hb hB1 => ?_
    · refine Ok.skip ?_
      refine Ok.seq ?_
      refine Ok.block ?_
      refine Ok.seq ?_
      refine Ok.region Try.tok ?_
      refine Ok.wk (Wk.tab (L := [(0, (.s (List.map c_api_Page p_s))), (1, (.c (.func 36) [] [(.p [(vi p_f_c0_0)])])), (5, (vi s1)), (7, (vi ((p_s.length : Int)))), (8, (vi s1))]) (H' := []) ⟨Le.refl _, Le.refl _, Le.refl _, Le.refl _, Le.refl _, True.intro⟩ True.intro rfl) ?_
      refine Ok.seq ?_
      refine Ok.region Try.tok ?_
      obtain ⟨x1, hx1, hB1⟩ := bindS hB1
      obtain ⟨x2, hx2, hB1⟩ := bindS hB1
      refine ⟨_, idx_nat hx1, _, idx_row hx1, ⟨_, rfl, ?_⟩⟩
      refine CallOk.call (w_disk_Read_1 hx2) (LeL.refl _) ?_
      refine Ok.wk (Wk.tab (L := [(0, (.s (List.map c_api_Page p_s))), (1, (.c (.func 36) [] [(.p [(vi p_f_c0_0)])])), (5, (vi s1)), (7, (vi ((p_s.length : Int)))), (8, (vi s1)), (16, (vb x2))]) (H' := []) ⟨Le.refl _, Le.refl _, Le.refl _, Le.refl _, Le.refl _, Le.refl _, True.intro⟩ True.intro rfl) ?_
      refine Ok.cond (d := 16) (b := x2) rfl hB1 (fun hb hB1 => ?_) fun hb hB1 => ?_
      · refine Ok.seq ?_
        refine Ok.region Try.tok ?_
        refine Ok.wk (Wk.tab (L := [(4, (vi s1))]) (H' := []) ⟨Le.refl _, True.intro⟩ True.intro rfl) ?_
        refine Ok.ret ?_
        have hB1 := out_ret hB1 hy1
        cases hB1
        exact Fz.v
      · refine Ok.skip ?_
        refine Ok.region Try.tok ?_
        obtain ⟨hc1, hB1⟩ := chk_some hB1
        refine (Or.inl ⟨hc1, ?_⟩)
        exact ⟨_, (Option.some.inj hB1).symm, Wk.tab ⟨Le.refl _, Le.refl _, Le.refl _, Le.refl _, True.intro⟩ True.intro rfl⟩
    · refine Ok.exit ?_
      have hB1 := out_ret hB1 hy1
      exact ⟨_, hB1, Wk.tab True.intro True.intro rfl⟩
  intro v1 h
  unfold slices_IndexFunc_api_Page_api_Page__disk_Read_1_J1 at h
  refine Ok.seq ?_
  refine Ok.region Try.tok ?_
  refine Ok.wk (Wk.tab (L := [(4, (vi ((-1))))]) (H' := []) ⟨Le.refl _, True.intro⟩ True.intro rfl) ?_
  refine Ok.ret ?_
  cases h
  exact Fz.v

theorem w_disk_find_api_Page__disk_Read_1 {p_l : List api_Page} {p_is_c0 : Int} {r : Int} (h : disk_find_api_Page__disk_Read_1 p_l p_is_c0 = some r) : Pure Try.prog 27 [(.s (List.map c_api_Page p_l)), (.c (.func 36) [] [(.p [(vi p_is_c0)])])] (vi r) := by
  refine pure_of_ok (n := 8) (c := (Try.f27.body.getD .skip)) Try.tok Try.func27 (by kernel_rfl) rfl rfl (Nat.le_of_ble_eq_true rfl) ?_
  unfold disk_find_api_Page__disk_Read_1 at h
  refine Ok.wk (Wk.tab (L := [(0, (.s (List.map c_api_Page p_l))), (1, (.c (.func 36) [] [(.p [(vi p_is_c0)])]))]) (H' := []) ⟨Le.refl _, Le.refl _, True.intro⟩ True.intro rfl) ?_
  refine Ok.seq ?_
  refine Ok.region Try.tok ?_
  refine Ok.wk (Wk.tab (L := [(0, (.s (List.map c_api_Page p_l))), (1, (.c (.func 36) [] [(.p [(vi p_is_c0)])]))]) (H' := []) ⟨Le.refl _, Le.refl _, True.intro⟩ True.intro rfl) ?_
  refine Ok.seq ?_
  refine Ok.region Try.tok ?_
  obtain ⟨x1, hx1, h⟩ := bindS h
  refine CallOk.call (w_slices_IndexFunc_api_Page_api_Page__disk_Read_1 hx1) (LeL.refl _) ?_
  refine Ok.wk (Wk.tab (L := [(4, (vi x1))]) (H' := []) ⟨Le.refl _, True.intro⟩ True.intro rfl) ?_
  refine Ok.ret ?_
  cases h
  exact Fz.v

theorem w_disk_Read {p_d : api_Disk} {p_at : Int} {r : (List UInt8) × Int} (h : disk_Read p_d p_at = some r) : Pure Try.prog 16 [(.a [(.s (List.map c_api_Page p_d.Synced)), (.s (List.map c_api_Page p_d.Loose)), (vb p_d.Down)]), (vi p_at)] (.t [(.s (List.map cU8 r.1)), (vi r.2)]) := by
  refine pure_of_ok (n := 34) (c := (Try.f16.body.getD .skip)) Try.tok Try.func16 (by kernel_rfl) rfl rfl (Nat.le_of_ble_eq_true rfl) ?_
  unfold disk_Read at h
  refine Ok.wk (Wk.tab (L := [(0, (.a [(.s (List.map c_api_Page p_d.Synced)), (.s (List.map c_api_Page p_d.Loose)), (vb p_d.Down)])), (1, (vi p_at))]) (H' := []) ⟨Le.refl _, Le.refl _, True.intro⟩ True.intro rfl) ?_
  refine Ok.seq ?_
  refine Ok.region Try.tok ?_
  refine Ok.wk (Wk.tab (L := [(2, (.b 2 0)), (3, (.b 3 0))]) (H' := [(2, .box [(.s (List.map c_api_Page p_d.Synced)), (.s (List.map c_api_Page p_d.Loose)), (vb p_d.Down)]), (3, .box [(vi p_at)])]) ⟨Le.refl _, Le.refl _, True.intro⟩ ⟨⟨_, rfl, .refl _⟩, ⟨_, rfl, .refl _⟩, True.intro⟩ rfl) ?_
  refine Ok.seq ?_
  refine Ok.block ?_
  refine Ok.seq ?_
  refine Ok.region Try.tok ?_
  refine ⟨_, rfl, ?_⟩
  refine Ok.wk (Wk.tab (L := [(2, (.b 2 0)), (3, (.b 3 0)), (8, (vb p_d.Down))]) (H' := [(2, .box [(.s (List.map c_api_Page p_d.Synced)), (.s (List.map c_api_Page p_d.Loose)), (vb p_d.Down)]), (3, .box [(vi p_at)])]) ⟨Le.refl _, Le.refl _, Le.refl _, True.intro⟩ ⟨⟨_, rfl, .refl _⟩, ⟨_, rfl, .refl _⟩, True.intro⟩ rfl) ?_
  refine Ok.cond (d := 8) (b := p_d.Down) rfl h (fun hb h => ?_) fun hb h => ?_
  · refine Ok.seq ?_
    refine Ok.region Try.tok ?_
    refine Ok.wk (Wk.tab (L := [(4, (.v (.slice none 0 0))), (5, (vi (40)))]) (H' := []) ⟨Le.refl _, Le.refl _, True.intro⟩ True.intro rfl) ?_
    refine Ok.ret ?_
    cases h
    exact (Fz.t (.cons Fz.nil (.cons Fz.v .nil)))
  · refine Ok.seq ?_
    refine Ok.region Try.tok ?_
    obtain ⟨x1, hx1, h⟩ := bindS h
    refine ⟨_, rfl, ?_⟩
    refine CallOk.call (w_disk_may hx1) (.cons (Le.refl _) (.cons (Le.nil) (.nil))) ?_
    refine Ok.wk (Wk.tab (L := [(2, (.b 2 0)), (3, (.b 3 0)), (11, (vb ((!x1))))]) (H' := [(2, .box [(.s (List.map c_api_Page p_d.Synced)), (.s (List.map c_api_Page p_d.Loose)), (vb p_d.Down)]), (3, .box [(vi p_at)])]) ⟨Le.refl _, Le.refl _, Le.refl _, True.intro⟩ ⟨⟨_, rfl, .refl _⟩, ⟨_, rfl, .refl _⟩, True.intro⟩ rfl) ?_
    refine Ok.cond (d := 11) (b := (!x1)) rfl h (fun hb h => ?_) fun hb h => ?_
    · refine Ok.seq ?_
      refine Ok.region Try.tok ?_
      refine Ok.wk (Wk.tab (L := [(4, (.v (.slice none 0 0))), (5, (vi (1)))]) (H' := []) ⟨Le.refl _, Le.refl _, True.intro⟩ True.intro rfl) ?_
      refine Ok.ret ?_
      cases h
      exact (Fz.t (.cons Fz.nil (.cons Fz.v .nil)))
    · refine Ok.skip ?_
      refine Ok.seq ?_
      refine Ok.region Try.tok ?_
      obtain ⟨x2, hx2, h⟩ := bindS h
      refine ⟨_, rfl, ⟨_, rfl, Or.inl ?_⟩⟩
      refine CallOk.own (D := 20) (wo_slices_Concat_api_Page_api_Page hx2) (LeL.refl _) rfl ?_
      refine Ok.wk (Wk.tab (L := [(3, (.b 3 0)), (6, (.o 20))]) (H' := [(3, .box [(vi p_at)]), (20, .own 48 2 (List.map c_api_Page x2))]) ⟨Le.refl _, Le.refl _, True.intro⟩ ⟨⟨_, rfl, .refl _⟩, ⟨_, rfl, .refl _⟩, True.intro⟩ rfl) ?_
      refine Ok.seq ?_
      refine Ok.region Try.tok ?_
      obtain ⟨x3, hx3, h⟩ := bindS h
      refine CallOk.chgLe (id := 20) (w_slices_Reverse_api_Page_api_Page hx3) rfl (.refl _) rfl (.cons (Lr.o) (.nil)) ?_
      rintro _ _ ⟨rfl, rfl⟩
      refine Ok.wk (Wk.tab (L := [(3, (.b 3 0)), (6, (.o 20))]) (H' := [(3, .box [(vi p_at)]), (20, .own 48 2 (List.map c_api_Page x3.2))]) ⟨Le.refl _, Le.refl _, True.intro⟩ ⟨⟨_, rfl, .refl _⟩, ⟨_, rfl, .refl _⟩, True.intro⟩ rfl) ?_
      refine Ok.seq ?_
      refine Ok.region Try.tok ?_
      obtain ⟨x4, hx4, h⟩ := bindS h
      refine CallOk.borrow (w_disk_find_api_Page__disk_Read_1 hx4) (.cons (Fz.o rfl) (.cons (Fz.c .nil (.cons (Fz.b rfl rfl) .nil)) (.nil))) rfl ?_
      refine Ok.wk (Wk.tab (L := [(6, (.o 20)), (7, (vi x4))]) (H' := [(20, .own 48 2 (List.map c_api_Page x3.2))]) ⟨Le.refl _, Le.refl _, True.intro⟩ ⟨⟨_, rfl, .refl _⟩, True.intro⟩ rfl) ?_
      refine Ok.seq ?_
      refine Ok.seq ?_
      refine Ok.region Try.tok ?_
      refine Ok.wk (Wk.tab (L := [(6, (.o 20)), (7, (vi x4)), (27, (vb ((decide (x4 < 0)))))]) (H' := [(20, .own 48 2 (List.map c_api_Page x3.2))]) ⟨Le.refl _, Le.refl _, Le.refl _, True.intro⟩ ⟨⟨_, rfl, .refl _⟩, True.intro⟩ rfl) ?_
      refine Ok.cond (d := 27) (b := (decide (x4 < 0))) rfl h (fun hb h => ?_) fun hb h => ?_
      · refine Ok.seq ?_
        refine Ok.region Try.tok ?_
        refine Ok.wk (Wk.tab (L := [(4, (.v (.slice none 0 0))), (5, (vi (41)))]) (H' := []) ⟨Le.refl _, Le.refl _, True.intro⟩ True.intro rfl) ?_
        refine Ok.ret ?_
        cases h
        exact (Fz.t (.cons Fz.nil (.cons Fz.v .nil)))
      · refine Ok.skip ?_
        refine Ok.seq ?_
        refine Ok.region Try.tok ?_
        obtain ⟨x5, hx5, h⟩ := bindS h
        obtain ⟨x6, hx6, h⟩ := bindS h
        refine ⟨_, idx_nat hx5, idx_ltm hx5, ⟨_, idx_row hx5, rfl, _, rfl, ?_⟩⟩
        refine CallOk.call (w_bytes_Clone hx6) (LeL.refl _) ?_
        refine Ok.wk (Wk.tab (L := [(4, (.s (List.map cU8 x6))), (5, (vi (0)))]) (H' := []) ⟨Le.refl _, Le.refl _, True.intro⟩ True.intro rfl) ?_
        refine Ok.ret ?_
        cases h
        exact (Fz.t (.cons Fz.s (.cons Fz.v .nil)))

theorem wo_disk_laid [Off] {p_l : List api_Page} {p_over : List api_Page} {r : (List api_Page)} (h : disk_laid p_l p_over = some r) : POwn Try.prog 39 [(.s (List.map c_api_Page p_l)), (.s (List.map c_api_Page p_over))] 48 2 (List.map c_api_Page r) := by
  refine pown_of_ok (n := 42) (c := (Try.f39.body.getD .skip)) Try.tok Try.func39 (by kernel_rfl) rfl rfl (Nat.le_of_ble_eq_true rfl) ?_
  unfold disk_laid at h
  refine Ok.wk (Wk.tab (L := [(0, (.s (List.map c_api_Page p_l))), (1, (.s (List.map c_api_Page p_over)))]) (H' := []) ⟨Le.refl _, Le.refl _, True.intro⟩ True.intro rfl) ?_
  refine Ok.seq ?_
  refine Ok.region Try.tok ?_
  refine Ok.wk (Wk.tab (L := [(0, (.s (List.map c_api_Page p_l))), (1, (.s (List.map c_api_Page p_over)))]) (H' := []) ⟨Le.refl _, Le.refl _, True.intro⟩ True.intro rfl) ?_
  refine Ok.seq ?_
  refine Ok.region Try.tok ?_
  refine Ok.wk (Wk.tab (L := [(0, (.s (List.map c_api_Page p_l))), (1, (.s (List.map c_api_Page p_over))), (5, (.m 11))]) (H' := [(11, .mp true (List.map (fun p => (p.1, c_api_Page p.2)) (([] : List (Int × api_Page)))))]) ⟨Le.refl _, Le.refl _, Le.refl _, True.intro⟩ ⟨⟨_, rfl, .refl _⟩, True.intro⟩ rfl) ?_
  obtain ⟨v1, hv1, h⟩ := bindS h
  refine Ok.seqw ⟨Cat.tab [(5, (.m 11))], [(11, .mp true (List.map (fun p => (p.1, c_api_Page p.2)) v1))]⟩ ?_ ?_
  · refine Ok.seq ?_
    refine Ok.region Try.tok ?_
    obtain ⟨x1, hx1, hv1⟩ := bindS hv1
    refine Or.inl ?_
    refine CallOk.call (w_slices_Concat_api_Page_api_Page hx1) (LeL.refl _) ?_
    refine ⟨_, List.length_map _, fun _ => ?_⟩
    refine Ok.wk (Wk.tab (L := [(5, (.m 11)), (15, (.s (List.map c_api_Page x1))), (16, (vi ((x1.length : Int)))), (17, (vi (0)))]) (H' := [(11, .mp true (List.map (fun p => (p.1, c_api_Page p.2)) (([] : List (Int × api_Page)))))]) ⟨Le.refl _, Le.refl _, Le.refl _, Le.refl _, True.intro⟩ ⟨⟨_, rfl, .refl _⟩, True.intro⟩ rfl) ?_
    refine Ok.block ?_
    refine Ok.loop (fun (s1 : Int × (List (Int × api_Page))) => ⟨Cat.tab [(5, (.m 11)), (15, (.s (List.map c_api_Page x1))), (16, (vi ((x1.length : Int)))), (17, (vi s1.1))], [(11, .mp true (List.map (fun p => (p.1, c_api_Page p.2)) s1.2))]⟩) (disk_laid_B1 x1) (s0 := (0, ([] : List (Int × api_Page)))) hv1 (Wk.tab ⟨Le.refl _, Le.refl _, Le.refl _, Le.refl _, True.intro⟩ ⟨⟨_, rfl, .refl _⟩, True.intro⟩ rfl) ?_
    intro s1 y1 hB1 hy1
    unfold disk_laid_B1 at hB1
    refine Ok.seq ?_
    refine Ok.region Try.tok ?_
    refine Ok.wk (Wk.tab (L := [(5, (.m 11)), (15, (.s (List.map c_api_Page x1))), (16, (vi ((x1.length : Int)))), (17, (vi s1.1)), (18, (vb ((decide (s1.1 < (x1.length : Int))))))]) (H' := [(11, .mp true (List.map (fun p => (p.1, c_api_Page p.2)) s1.2))]) ⟨Le.refl _, Le.refl _, Le.refl _, Le.refl _, Le.refl _, True.intro⟩ ⟨⟨_, rfl, .refl _⟩, True.intro⟩ rfl) ?_
    refine Ok.seq ?_
    refine Ok.cond (d := 18) (b := (decide (s1.1 < (x1.length : Int)))) rfl hB1 (fun hb hB1 => ?_) fun hb hB1 => ?_
    · refine Ok.skip ?_
      refine Ok.seq ?_
      refine Ok.block ?_
      refine Ok.seq ?_
      refine Ok.region Try.tok ?_
      obtain ⟨x2, hx2, hB1⟩ := bindS hB1
      refine ⟨_, idx_nat hx2, _, idx_row hx2, ⟨_, rfl, ⟨_, rfl, ?_⟩⟩⟩
      refine Ok.wk (Wk.tab (L := [(5, (.m 11)), (7, (.b 7 0)), (15, (.s (List.map c_api_Page x1))), (16, (vi ((x1.length : Int)))), (17, (vi s1.1))]) (H' := [(11, .mp true (List.map (fun p => (p.1, c_api_Page p.2)) s1.2)), (7, .box [(vi x2.At), (.s (List.map cU8 x2.Data))])]) ⟨Le.refl _, Le.refl _, Le.refl _, Le.refl _, Le.refl _, True.intro⟩ ⟨⟨_, rfl, .refl _⟩, ⟨_, rfl, .refl _⟩, True.intro⟩ rfl) ?_
      refine Ok.region Try.tok ?_
      obtain ⟨hc1, hB1⟩ := chk_some hB1
      refine ⟨_, rfl, ⟨_, rfl, ⟨hc1.1, Nat.lt_of_le_of_lt (Nat.le_of_eq (List.length_map _)) hc1.2, _, mset_map c_api_Page x2.At x2 s1.2, ?_⟩⟩⟩
      refine Ok.wk (Wk.tab (L := [(5, (.m 11)), (15, (.s (List.map c_api_Page x1))), (16, (vi ((x1.length : Int)))), (17, (vi s1.1))]) (H' := [(11, .mp true (List.map (fun p => (p.1, c_api_Page p.2)) ((mset x2.At x2 s1.2))))]) ⟨Le.refl _, Le.refl _, Le.refl _, Le.refl _, True.intro⟩ ⟨⟨_, rfl, .refl _⟩, True.intro⟩ rfl) ?_
      refine Ok.region Try.tok ?_
      obtain ⟨hc2, hB1⟩ := chk_some hB1
      refine (Or.inl ⟨hc2, ?_⟩)
      exact ⟨_, (Option.some.inj hB1).symm, Wk.tab ⟨Le.refl _, Le.refl _, Le.refl _, Le.refl _, True.intro⟩ ⟨⟨_, rfl, .refl _⟩, True.intro⟩ rfl⟩
    · refine Ok.exit ?_
      have hB1 := out_ret hB1 hy1
      cases hB1
      exact Wk.tab ⟨Le.refl _, True.intro⟩ ⟨⟨_, rfl, .refl _⟩, True.intro⟩ rfl
  refine Ok.seq ?_
  refine Ok.region Try.tok ?_
  refine Ok.wk (Wk.tab (L := [(5, (.m 11)), (8, (.v (.slice none 0 0)))]) (H' := [(11, .mp true (List.map (fun p => (p.1, c_api_Page p.2)) v1))]) ⟨Le.refl _, Le.refl _, True.intro⟩ ⟨⟨_, rfl, .refl _⟩, True.intro⟩ rfl) ?_
  obtain ⟨v2, hv2, h⟩ := bindS h
  refine Ok.seqw ⟨Cat.tab [(8, (.o 39))], [(39, .own 48 2 (List.map c_api_Page v2))]⟩ ?_ ?_
  · refine Ok.seq ?_
    refine Ok.region Try.tok ?_
    refine CallOk.keys (D := 27) Try.keysS47 Try.enters47 rfl rfl rfl ?_
    obtain ⟨hc3, hv2⟩ := chk_some hv2
    obtain ⟨x3, hx3, hv2⟩ := bindS hv2
    refine CallOk.sortedKeys (D := 27) (D2 := 28) Try.sortedS46_50 Try.enters46 rfl rfl (klen hc3) (ksort hx3) rfl ?_
    refine ⟨_, List.length_map _, fun _ => ?_⟩
    refine Ok.wk (Wk.tab (L := [(5, (.m 11)), (8, (.v (.slice none 0 0))), (28, (.o 28)), (29, (vi ((x3.length : Int)))), (30, (vi (0)))]) (H' := [(11, .mp true (List.map (fun p => (p.1, c_api_Page p.2)) v1)), (28, .own 3 1 (List.map Go.Cat.encI x3))]) ⟨Le.refl _, Le.refl _, Le.refl _, Le.refl _, Le.refl _, True.intro⟩ ⟨⟨_, rfl, .refl _⟩, ⟨_, rfl, .refl _⟩, True.intro⟩ rfl) ?_
    refine Ok.block ?_
    refine Ok.loop (fun (s2 : Int × (List api_Page)) => ⟨Cat.tab [(5, (.m 11)), (8, (.o 39)), (28, (.o 28)), (29, (vi ((x3.length : Int)))), (30, (vi s2.1))], [(11, .mp true (List.map (fun p => (p.1, c_api_Page p.2)) v1)), (39, .own 48 2 (List.map c_api_Page s2.2)), (28, .own 3 1 (List.map Go.Cat.encI x3))]⟩) (disk_laid_B2 x3 v1) (s0 := (0, [])) hv2 ((Wk.own0 (t := 8) (id := 39) (E := 48) (K := 2) rfl rfl).trans (Wk.tab ⟨Le.refl _, Le.refl _, Le.refl _, Le.refl _, Le.refl _, True.intro⟩ ⟨⟨_, rfl, .refl _⟩, ⟨_, rfl, .refl _⟩, ⟨_, rfl, .refl _⟩, True.intro⟩ rfl)) ?_
    intro s2 y2 hB2 hy2
    unfold disk_laid_B2 at hB2
    refine Ok.seq ?_
    refine Ok.region Try.tok ?_
    refine Ok.wk (Wk.tab (L := [(5, (.m 11)), (8, (.o 39)), (28, (.o 28)), (29, (vi ((x3.length : Int)))), (30, (vi s2.1)), (31, (vb ((decide (s2.1 < (x3.length : Int))))))]) (H' := [(11, .mp true (List.map (fun p => (p.1, c_api_Page p.2)) v1)), (39, .own 48 2 (List.map c_api_Page s2.2)), (28, .own 3 1 (List.map Go.Cat.encI x3))]) ⟨Le.refl _, Le.refl _, Le.refl _, Le.refl _, Le.refl _, Le.refl _, True.intro⟩ ⟨⟨_, rfl, .refl _⟩, ⟨_, rfl, .refl _⟩, ⟨_, rfl, .refl _⟩, True.intro⟩ rfl) ?_
    refine Ok.seq ?_
    refine Ok.cond (d := 31) (b := (decide (s2.1 < (x3.length : Int)))) rfl hB2 (fun hb hB2 => ?_) fun hb hB2 => ?_
    · refine Ok.skip ?_
      refine Ok.seq ?_
      refine Ok.block ?_
      refine Ok.seq ?_
      refine Ok.region Try.tok ?_
      obtain ⟨x4, hx4, hB2⟩ := bindS hB2
      refine ⟨_, idx_nat hx4, idx_ltm hx4, ⟨_, idx_row hx4, rfl, _, rfl, ?_⟩⟩
      refine Ok.wk (Wk.tab (L := [(5, (.m 11)), (8, (.o 39)), (10, (vi x4)), (28, (.o 28)), (29, (vi ((x3.length : Int)))), (30, (vi s2.1))]) (H' := [(11, .mp true (List.map (fun p => (p.1, c_api_Page p.2)) v1)), (39, .own 48 2 (List.map c_api_Page s2.2)), (28, .own 3 1 (List.map Go.Cat.encI x3))]) ⟨Le.refl _, Le.refl _, Le.refl _, Le.refl _, Le.refl _, Le.refl _, True.intro⟩ ⟨⟨_, rfl, .refl _⟩, ⟨_, rfl, .refl _⟩, ⟨_, rfl, .refl _⟩, True.intro⟩ rfl) ?_
      refine Ok.region Try.tok ?_
      obtain ⟨x5, hx5, hB2⟩ := bindS hB2
      obtain ⟨hc4, hB2⟩ := chk_some hB2
      refine ⟨_, lk_val c_api_Page (z := ((⟨0, []⟩ : api_Page) : api_Page)) hx5, Or.inl ⟨rowsLen_map (f := c_api_Page) (n := 2) (fun _ => rfl) ([x5]), app_b2 (f := c_api_Page) (l := s2.2) (l' := ([x5])) hc4, _, (List.map_append (f := c_api_Page) (l₁ := s2.2) (l₂ := ([x5]))).symm, ?_⟩⟩
      refine Ok.wk (Wk.tab (L := [(5, (.m 11)), (8, (.o 39)), (28, (.o 28)), (29, (vi ((x3.length : Int)))), (30, (vi s2.1))]) (H' := [(11, .mp true (List.map (fun p => (p.1, c_api_Page p.2)) v1)), (39, .own 48 2 (List.map c_api_Page ((s2.2 ++ [x5])))), (28, .own 3 1 (List.map Go.Cat.encI x3))]) ⟨Le.refl _, Le.refl _, Le.refl _, Le.refl _, Le.refl _, True.intro⟩ ⟨⟨_, rfl, .refl _⟩, ⟨_, rfl, .refl _⟩, ⟨_, rfl, .refl _⟩, True.intro⟩ rfl) ?_
      refine Ok.region Try.tok ?_
      obtain ⟨hc5, hB2⟩ := chk_some hB2
      refine (Or.inl ⟨hc5, ?_⟩)
      exact ⟨_, (Option.some.inj hB2).symm, Wk.tab ⟨Le.refl _, Le.refl _, Le.refl _, Le.refl _, Le.refl _, True.intro⟩ ⟨⟨_, rfl, .refl _⟩, ⟨_, rfl, .refl _⟩, ⟨_, rfl, .refl _⟩, True.intro⟩ rfl⟩
    · refine Ok.exit ?_
      have hB2 := out_ret hB2 hy2
      cases hB2
      exact Wk.tab ⟨Le.refl _, True.intro⟩ ⟨⟨_, rfl, .refl _⟩, True.intro⟩ rfl
  refine Ok.seq ?_
  refine Ok.region Try.tok ?_
  refine Ok.wk (Wk.tab (L := [(4, (.o 39))]) (H' := [(39, .own 48 2 (List.map c_api_Page v2))]) ⟨Le.refl _, True.intro⟩ ⟨⟨_, rfl, .refl _⟩, True.intro⟩ rfl) ?_
  refine Ok.ret ?_
  cases h
  exact (.inr ⟨_, rfl, rfl⟩)
theorem w_disk_laid [Off] {p_l : List api_Page} {p_over : List api_Page} {r : (List api_Page)} (h : disk_laid p_l p_over = some r) : Pure Try.prog 39 [(.s (List.map c_api_Page p_l)), (.s (List.map c_api_Page p_over))] (.s (List.map c_api_Page r)) := (wo_disk_laid h).pure

theorem w_disk_Crash [Off] {p_d : api_Disk} {p_keep : Int} {r : api_Disk} (h : disk_Crash p_d p_keep = some r) : Pure Try.prog 22 [(.a [(.s (List.map c_api_Page p_d.Synced)), (.s (List.map c_api_Page p_d.Loose)), (vb p_d.Down)]), (vi p_keep)] (.a [(.s (List.map c_api_Page r.Synced)), (.s (List.map c_api_Page r.Loose)), (vb r.Down)]) := by
  refine pure_of_ok (n := 19) (c := (Try.f22.body.getD .skip)) Try.tok Try.func22 (by kernel_rfl) rfl rfl (Nat.le_of_ble_eq_true rfl) ?_
  unfold disk_Crash at h
  refine Ok.wk (Wk.tab (L := [(0, (.a [(.s (List.map c_api_Page p_d.Synced)), (.s (List.map c_api_Page p_d.Loose)), (vb p_d.Down)])), (1, (vi p_keep))]) (H' := []) ⟨Le.refl _, Le.refl _, True.intro⟩ True.intro rfl) ?_
  refine Ok.seq ?_
  refine Ok.region Try.tok ?_
  refine Ok.wk (Wk.tab (L := [(1, (vi p_keep)), (2, (.b 2 0)), (4, (.b 4 0))]) (H' := [(2, .box [(.s (List.map c_api_Page p_d.Synced)), (.s (List.map c_api_Page p_d.Loose)), (vb p_d.Down)]), (4, .box [(.v (.slice none 0 0)), (.v (.slice none 0 0)), (vb false)])]) ⟨Le.refl _, Le.refl _, Le.refl _, True.intro⟩ ⟨⟨_, rfl, .refl _⟩, ⟨_, rfl, .refl _⟩, True.intro⟩ rfl) ?_
  refine Ok.seq ?_
  refine Ok.region Try.tok ?_
  refine ⟨_, rfl, ⟨_, rfl, ⟨_, List.length_map _, fun _ => ⟨_, rfl, ?_⟩⟩⟩⟩
  refine Ok.wk (Wk.tab (L := [(1, (vi ((min ((max p_keep (0))) ((p_d.Loose.length : Int)))))), (2, (.b 2 0)), (4, (.b 4 0))]) (H' := [(2, .box [(.s (List.map c_api_Page p_d.Synced)), (.s (List.map c_api_Page p_d.Loose)), (vb p_d.Down)]), (4, .box [(.v (.slice none 0 0)), (.v (.slice none 0 0)), (vb false)])]) ⟨Le.refl _, Le.refl _, Le.refl _, True.intro⟩ ⟨⟨_, rfl, .refl _⟩, ⟨_, rfl, .refl _⟩, True.intro⟩ rfl) ?_
  refine Ok.seq ?_
  refine Ok.draw (m := 8) (MD := ⟨[]⟩) (CH := ⟨[]⟩) Try.tok Try.mixed (by kernel_rfl) ?_
  obtain ⟨hc1, h⟩ := chk_some h
  obtain ⟨x1, hx1, h⟩ := bindS h
  refine ⟨_, rfl, ⟨_, ⟨_, rfl, rfl⟩, ⟨_, rfl, ⟨_, ⟨_, rfl, rfl⟩, ⟨_, rfl, ⟨_, ⟨_, sl_nat hc1.1, Nat.zero_le _, sl_len hc1, rowsK (f := c_api_Page) (K := 2) (fun _ => rfl) p_d.Loose, _, sl_take _ _ _, rfl⟩, ⟨_, ⟨_, .of_pure (w_disk_laid hx1) (LeL.refl _), rfl⟩, ⟨_, rfl, ⟨True.intro, ⟨_, rfl, ?_⟩⟩⟩⟩⟩⟩⟩⟩⟩⟩
  refine Ok.wk (Wk.tab (L := [(4, (.b 4 0))]) (H' := [(4, .box [(.s (List.map c_api_Page x1)), (.v (.slice none 0 0)), (vb true)])]) ⟨Le.refl _, True.intro⟩ ⟨⟨_, rfl, .refl _⟩, True.intro⟩ rfl) ?_
  refine Ok.ret ?_
  cases h
  exact ⟨_, rfl, (Fz.a (.cons Fz.s (.cons Fz.nil (.cons Fz.v .nil))))⟩

theorem w_disk_Up {p_d : api_Disk} {r : api_Disk} (h : disk_Up p_d = some r) : Pure Try.prog 21 [(.a [(.s (List.map c_api_Page p_d.Synced)), (.s (List.map c_api_Page p_d.Loose)), (vb p_d.Down)])] (.a [(.s (List.map c_api_Page r.Synced)), (.s (List.map c_api_Page r.Loose)), (vb r.Down)]) := by
  refine pure_of_ok (n := 5) (c := (Try.f21.body.getD .skip)) Try.tok Try.func21 (by kernel_rfl) rfl rfl (Nat.le_of_ble_eq_true rfl) ?_
  unfold disk_Up at h
  refine Ok.wk (Wk.tab (L := [(0, (.a [(.s (List.map c_api_Page p_d.Synced)), (.s (List.map c_api_Page p_d.Loose)), (vb p_d.Down)]))]) (H' := []) ⟨Le.refl _, True.intro⟩ True.intro rfl) ?_
  refine Ok.seq ?_
  refine Ok.region Try.tok ?_
  refine Ok.wk (Wk.tab (L := [(1, (.b 1 0)), (2, (.b 2 0))]) (H' := [(1, .box [(.s (List.map c_api_Page p_d.Synced)), (.s (List.map c_api_Page p_d.Loose)), (vb p_d.Down)]), (2, .box [(.v (.slice none 0 0)), (.v (.slice none 0 0)), (vb false)])]) ⟨Le.refl _, Le.refl _, True.intro⟩ ⟨⟨_, rfl, .refl _⟩, ⟨_, rfl, .refl _⟩, True.intro⟩ rfl) ?_
  refine Ok.seq ?_
  refine Ok.region Try.tok ?_
  refine ⟨_, rfl, ?_⟩
  refine Ok.wk (Wk.tab (L := [(1, (.b 1 0)), (2, (.b 2 0))]) (H' := [(1, .box [(.s (List.map c_api_Page p_d.Synced)), (.s (List.map c_api_Page p_d.Loose)), (vb false)]), (2, .box [(.v (.slice none 0 0)), (.v (.slice none 0 0)), (vb false)])]) ⟨Le.refl _, Le.refl _, True.intro⟩ ⟨⟨_, rfl, .refl _⟩, ⟨_, rfl, .refl _⟩, True.intro⟩ rfl) ?_
  refine Ok.seq ?_
  refine Ok.region Try.tok ?_
  refine ⟨_, rfl, ⟨_, rfl, ?_⟩⟩
  refine Ok.wk (Wk.tab (L := [(2, (.b 2 0))]) (H' := [(2, .box [(.s (List.map c_api_Page p_d.Synced)), (.s (List.map c_api_Page p_d.Loose)), (vb false)])]) ⟨Le.refl _, True.intro⟩ ⟨⟨_, rfl, .refl _⟩, True.intro⟩ rfl) ?_
  refine Ok.ret ?_
  cases h
  exact ⟨_, rfl, (Fz.imm rfl)⟩

theorem w_disk_Rot_1 {p_p : api_Page} {p_a1_0 : Int} {r : Bool} (h : disk_Rot_1 p_p p_a1_0 = some r) : Pure Try.prog 40 [(.a [(vi p_p.At), (.s (List.map cU8 p_p.Data))]), (.p [(vi p_a1_0)])] (vb r) := by
  refine pure_of_ok (n := 8) (c := (Try.f40.body.getD .skip)) Try.tok Try.func40 (by kernel_rfl) rfl rfl (Nat.le_of_ble_eq_true rfl) ?_
  unfold disk_Rot_1 at h
  refine Ok.wk (Wk.tab (L := [(0, (.a [(vi p_p.At), (.s (List.map cU8 p_p.Data))])), (1, (.p [(vi p_a1_0)]))]) (H' := []) ⟨Le.refl _, Le.refl _, True.intro⟩ True.intro rfl) ?_
  refine Ok.seq ?_
  refine Ok.region Try.tok ?_
  refine Ok.wk (Wk.tab (L := [(1, (.p [(vi p_a1_0)])), (2, (.b 2 0))]) (H' := [(2, .box [(vi p_p.At), (.s (List.map cU8 p_p.Data))])]) ⟨Le.refl _, Le.refl _, True.intro⟩ ⟨⟨_, rfl, .refl _⟩, True.intro⟩ rfl) ?_
  refine Ok.seq ?_
  refine Ok.region Try.tok ?_
  refine ⟨_, rfl, ⟨_, rfl, ?_⟩⟩
  refine Ok.wk (Wk.tab (L := [(3, (vb ((p_p.At == p_a1_0))))]) (H' := []) ⟨Le.refl _, True.intro⟩ True.intro rfl) ?_
  refine Ok.ret ?_
  cases h
  exact Fz.v

theorem w_slices_IndexFunc_api_Page_api_Page__disk_Rot_1 {p_s : List api_Page} {p_f_c0_0 : Int} {r : Int} (h : slices_IndexFunc_api_Page_api_Page__disk_Rot_1 p_s p_f_c0_0 = some r) : Pure Try.prog 41 [(.s (List.map c_api_Page p_s)), (.c (.func 40) [] [(.p [(vi p_f_c0_0)])])] (vi r) := by
  refine pure_of_ok (n := 19) (c := (Try.f41.body.getD .skip)) Try.tok Try.func41 (by kernel_rfl) rfl rfl (Nat.le_of_ble_eq_true rfl) ?_
  unfold slices_IndexFunc_api_Page_api_Page__disk_Rot_1 at h
  refine Ok.wk (Wk.tab (L := [(0, (.s (List.map c_api_Page p_s))), (1, (.c (.func 40) [] [(.p [(vi p_f_c0_0)])]))]) (H' := []) ⟨Le.refl _, Le.refl _, True.intro⟩ True.intro rfl) ?_
  refine Ok.seq ?_
  refine Ok.region Try.tok ?_
  refine Ok.wk (Wk.tab (L := [(0, (.s (List.map c_api_Page p_s))), (1, (.c (.func 40) [] [(.p [(vi p_f_c0_0)])]))]) (H' := []) ⟨Le.refl _, Le.refl _, True.intro⟩ True.intro rfl) ?_
  refine Ok.seqj (fun v1 => ⟨Cat.tab [], []⟩) (fun v1 => slices_IndexFunc_api_Page_api_Page__disk_Rot_1_J1 v1 = some r) ?_ ?_
  · refine Ok.seq ?_
    refine Ok.region Try.tok ?_
    refine ⟨_, List.length_map _, fun _ => ?_⟩
    refine Ok.wk (Wk.tab (L := [(0, (.s (List.map c_api_Page p_s))), (1, (.c (.func 40) [] [(.p [(vi p_f_c0_0)])])), (7, (vi ((p_s.length : Int)))), (8, (vi (0)))]) (H' := []) ⟨Le.refl _, Le.refl _, Le.refl _, Le.refl _, True.intro⟩ True.intro rfl) ?_
    refine Ok.block ?_
    refine Ok.loop (fun (s1 : Int) => ⟨Cat.tab [(0, (.s (List.map c_api_Page p_s))), (1, (.c (.func 40) [] [(.p [(vi p_f_c0_0)])])), (7, (vi ((p_s.length : Int)))), (8, (vi s1))], []⟩) (slices_IndexFunc_api_Page_api_Page__disk_Rot_1_B1 p_s p_f_c0_0) (s0 := 0) h (Wk.tab ⟨Le.refl _, Le.refl _, Le.refl _, Le.refl _, True.intro⟩ True.intro rfl) ?_
    intro s1 y1 hB1 hy1
    unfold slices_IndexFunc_api_Page_api_Page__disk_Rot_1_B1 at hB1
    refine Ok.seq ?_
    refine Ok.region Try.tok ?_
    refine Ok.wk (Wk.tab (L := [(0, (.s (List.map c_api_Page p_s))), (1, (.c (.func 40) [] [(.p [(vi p_f_c0_0)])])), (7, (vi ((p_s.length : Int)))), (8, (vi s1)), (9, (vb ((decide (s1 < (p_s.length : Int))))))]) (H' := []) ⟨Le.refl _, Le.refl _, Le.refl _, Le.refl _, Le.refl _, True.intro⟩ True.intro rfl) ?_
    refine Ok.seq ?_
    refine Ok.cond (d := 9) (b := (decide (s1 < (p_s.length : Int)))) rfl hB1 (fun hb hB1 => ?_) fun hb hB1 => ?_
    · refine Ok.skip ?_
      refine Ok.seq ?_
      refine Ok.block ?_
      refine Ok.seq ?_
      refine Ok.region Try.tok ?_
      refine Ok.wk (Wk.tab (L := [(0, (.s (List.map c_api_Page p_s))), (1, (.c (.func 40) [] [(.p [(vi p_f_c0_0)])])), (5, (vi s1)), (7, (vi ((p_s.length : Int)))), (8, (vi s1))]) (H' := []) ⟨Le.refl _, Le.refl _, Le.refl _, Le.refl _, Le.refl _, True.intro⟩ True.intro rfl) ?_
      refine Ok.seq ?_
      refine Ok.region Try.tok ?_
      obtain ⟨x1, hx1, hB1⟩ := bindS hB1
      obtain ⟨x2, hx2, hB1⟩ := bindS hB1
      refine ⟨_, idx_nat hx1, _, idx_row hx1, ⟨_, rfl, ?_⟩⟩
      refine CallOk.call (w_disk_Rot_1 hx2) (LeL.refl _) ?_
      refine Ok.wk (Wk.tab (L := [(0, (.s (List.map c_api_Page p_s))), (1, (.c (.func 40) [] [(.p [(vi p_f_c0_0)])])), (5, (vi s1)), (7, (vi ((p_s.length : Int)))), (8, (vi s1)), (16, (vb x2))]) (H' := []) ⟨Le.refl _, Le.refl _, Le.refl _, Le.refl _, Le.refl _, Le.refl _, True.intro⟩ True.intro rfl) ?_
      refine Ok.cond (d := 16) (b := x2) rfl hB1 (fun hb hB1 => ?_) fun hb hB1 => ?_
      · refine Ok.seq ?_
        refine Ok.region Try.tok ?_
        refine Ok.wk (Wk.tab (L := [(4, (vi s1))]) (H' := []) ⟨Le.refl _, True.intro⟩ True.intro rfl) ?_
        refine Ok.ret ?_
        have hB1 := out_ret hB1 hy1
        cases hB1
        exact Fz.v
      · refine Ok.skip ?_
        refine Ok.region Try.tok ?_
        obtain ⟨hc1, hB1⟩ := chk_some hB1
        refine (Or.inl ⟨hc1, ?_⟩)
        exact ⟨_, (Option.some.inj hB1).symm, Wk.tab ⟨Le.refl _, Le.refl _, Le.refl _, Le.refl _, True.intro⟩ True.intro rfl⟩
    · refine Ok.exit ?_
      have hB1 := out_ret hB1 hy1
      exact ⟨_, hB1, Wk.tab True.intro True.intro rfl⟩
  intro v1 h
  unfold slices_IndexFunc_api_Page_api_Page__disk_Rot_1_J1 at h
  refine Ok.seq ?_
  refine Ok.region Try.tok ?_
  refine Ok.wk (Wk.tab (L := [(4, (vi ((-1))))]) (H' := []) ⟨Le.refl _, True.intro⟩ True.intro rfl) ?_
  refine Ok.ret ?_
  cases h
  exact Fz.v

theorem w_disk_find_api_Page__disk_Rot_1 {p_l : List api_Page} {p_is_c0 : Int} {r : Int} (h : disk_find_api_Page__disk_Rot_1 p_l p_is_c0 = some r) : Pure Try.prog 27 [(.s (List.map c_api_Page p_l)), (.c (.func 40) [] [(.p [(vi p_is_c0)])])] (vi r) := by
  refine pure_of_ok (n := 8) (c := (Try.f27.body.getD .skip)) Try.tok Try.func27 (by kernel_rfl) rfl rfl (Nat.le_of_ble_eq_true rfl) ?_
  unfold disk_find_api_Page__disk_Rot_1 at h
  refine Ok.wk (Wk.tab (L := [(0, (.s (List.map c_api_Page p_l))), (1, (.c (.func 40) [] [(.p [(vi p_is_c0)])]))]) (H' := []) ⟨Le.refl _, Le.refl _, True.intro⟩ True.intro rfl) ?_
  refine Ok.seq ?_
  refine Ok.region Try.tok ?_
  refine Ok.wk (Wk.tab (L := [(0, (.s (List.map c_api_Page p_l))), (1, (.c (.func 40) [] [(.p [(vi p_is_c0)])]))]) (H' := []) ⟨Le.refl _, Le.refl _, True.intro⟩ True.intro rfl) ?_
  refine Ok.seq ?_
  refine Ok.region Try.tok ?_
  obtain ⟨x1, hx1, h⟩ := bindS h
  refine CallOk.call (w_slices_IndexFunc_api_Page_api_Page__disk_Rot_1 hx1) (LeL.refl _) ?_
  refine Ok.wk (Wk.tab (L := [(4, (vi x1))]) (H' := []) ⟨Le.refl _, True.intro⟩ True.intro rfl) ?_
  refine Ok.ret ?_
  cases h
  exact Fz.v

theorem w_disk_Rot {p_d : api_Disk} {p_at : Int} {p_bit : Int} {r : api_Disk} (h : disk_Rot p_d p_at p_bit = some r) : Pure Try.prog 23 [(.a [(.s (List.map c_api_Page p_d.Synced)), (.s (List.map c_api_Page p_d.Loose)), (vb p_d.Down)]), (vi p_at), (vi p_bit)] (.a [(.s (List.map c_api_Page r.Synced)), (.s (List.map c_api_Page r.Loose)), (vb r.Down)]) := by
  refine pure_of_ok (n := 60) (c := (Try.f23.body.getD .skip)) Try.tok Try.func23 (by kernel_rfl) rfl rfl (Nat.le_of_ble_eq_true rfl) ?_
  unfold disk_Rot at h
  refine Ok.wk (Wk.tab (L := [(0, (.a [(.s (List.map c_api_Page p_d.Synced)), (.s (List.map c_api_Page p_d.Loose)), (vb p_d.Down)])), (1, (vi p_at)), (2, (vi p_bit))]) (H' := []) ⟨Le.refl _, Le.refl _, Le.refl _, True.intro⟩ True.intro rfl) ?_
  refine Ok.seq ?_
  refine Ok.region Try.tok ?_
  refine Ok.wk (Wk.tab (L := [(2, (vi p_bit)), (3, (.b 3 0)), (4, (.b 4 0)), (6, (.b 6 0))]) (H' := [(3, .box [(.s (List.map c_api_Page p_d.Synced)), (.s (List.map c_api_Page p_d.Loose)), (vb p_d.Down)]), (4, .box [(vi p_at)]), (6, .box [(.v (.slice none 0 0)), (.v (.slice none 0 0)), (vb false)])]) ⟨Le.refl _, Le.refl _, Le.refl _, Le.refl _, True.intro⟩ ⟨⟨_, rfl, .refl _⟩, ⟨_, rfl, .refl _⟩, ⟨_, rfl, .refl _⟩, True.intro⟩ rfl) ?_
  refine Ok.seq ?_
  refine Ok.region Try.tok ?_
  obtain ⟨x1, hx1, h⟩ := bindS h
  refine ⟨_, rfl, ?_⟩
  refine CallOk.borrow (w_disk_find_api_Page__disk_Rot_1 hx1) (.cons Fz.s (.cons (Fz.c .nil (.cons (Fz.b rfl rfl) .nil)) (.nil))) rfl ?_
  refine Ok.wk (Wk.tab (L := [(2, (vi p_bit)), (3, (.b 3 0)), (6, (.b 6 0)), (7, (vi x1))]) (H' := [(3, .box [(.s (List.map c_api_Page p_d.Synced)), (.s (List.map c_api_Page p_d.Loose)), (vb p_d.Down)]), (6, .box [(.v (.slice none 0 0)), (.v (.slice none 0 0)), (vb false)])]) ⟨Le.refl _, Le.refl _, Le.refl _, Le.refl _, True.intro⟩ ⟨⟨_, rfl, .refl _⟩, ⟨_, rfl, .refl _⟩, True.intro⟩ rfl) ?_
  refine Ok.seq ?_
  obtain ⟨v1, hv1, h⟩ := bindS h
  refine Ok.seqw ⟨Cat.tab [(2, (vi p_bit)), (3, (.b 3 0)), (6, (.b 6 0)), (7, (vi x1)), (30, (vb v1))], [(3, .box [(.s (List.map c_api_Page p_d.Synced)), (.s (List.map c_api_Page p_d.Loose)), (vb p_d.Down)]), (6, .box [(.v (.slice none 0 0)), (.v (.slice none 0 0)), (vb false)])]⟩ ?_ ?_
  · refine Ok.region Try.tok ?_
    obtain ⟨c1, hg1, hv1⟩ := bindS hv1
    refine Br.itf hg1 (fun hb hg1 => ?_) fun hb hg1 => ?_
    · cases hg1
      obtain ⟨c2, hg2, hv1⟩ := bindS hv1
      replace hg2 := iteT hg2
      cases hg2
      cases hv1
      exact Wk.tab ⟨Le.refl _, Le.refl _, Le.refl _, Le.refl _, Le.refl _, True.intro⟩ ⟨⟨_, rfl, .refl _⟩, ⟨_, rfl, .refl _⟩, True.intro⟩ rfl
    · cases hg1
      obtain ⟨c2, hg3, hv1⟩ := bindS hv1
      refine Br.itf hg3 (fun hb hg3 => ?_) fun hb hg3 => ?_
      · cases hg3
        cases hv1
        exact Wk.tab ⟨Le.refl _, Le.refl _, Le.refl _, Le.refl _, Le.refl _, True.intro⟩ ⟨⟨_, rfl, .refl _⟩, ⟨_, rfl, .refl _⟩, True.intro⟩ rfl
      · obtain ⟨x2, hx2, hg3⟩ := bindS hg3
        obtain ⟨hc1, hg3⟩ := chk_some hg3
        refine ⟨_, rfl, ⟨_, idx_nat hx2, _, idx_row hx2, ⟨_, rfl, ⟨_, List.length_map _, fun _ => (Or.inl ⟨hc1, ?_⟩)⟩⟩⟩⟩
        cases hg3
        cases hv1
        exact Wk.tab ⟨Le.refl _, Le.refl _, Le.refl _, Le.refl _, Le.refl _, True.intro⟩ ⟨⟨_, rfl, .refl _⟩, ⟨_, rfl, .refl _⟩, True.intro⟩ rfl
  refine Ok.cond (d := 30) (b := v1) rfl h (fun hb h => ?_) fun hb h => ?_
  · refine Ok.seq ?_
    refine Ok.region Try.tok ?_
    refine ⟨_, rfl, ⟨_, rfl, ?_⟩⟩
    refine Ok.wk (Wk.tab (L := [(6, (.b 6 0))]) (H' := [(6, .box [(.s (List.map c_api_Page p_d.Synced)), (.s (List.map c_api_Page p_d.Loose)), (vb p_d.Down)])]) ⟨Le.refl _, True.intro⟩ ⟨⟨_, rfl, .refl _⟩, True.intro⟩ rfl) ?_
    refine Ok.ret ?_
    cases h
    exact ⟨_, rfl, (Fz.imm rfl)⟩
  · refine Ok.skip ?_
    refine Ok.seq ?_
    refine Ok.region Try.tok ?_
    obtain ⟨x3, hx3, h⟩ := bindS h
    obtain ⟨x4, hx4, h⟩ := bindS h
    refine ⟨_, rfl, ⟨_, idx_nat hx3, _, idx_row hx3, ⟨_, rfl, ?_⟩⟩⟩
    refine CallOk.own (D := 38) (wo_bytes_Clone hx4) (LeL.refl _) rfl ?_
    refine Ok.wk (Wk.tab (L := [(2, (vi p_bit)), (3, (.b 3 0)), (6, (.b 6 0)), (7, (vi x1)), (8, (.o 38))]) (H' := [(3, .box [(.s (List.map c_api_Page p_d.Synced)), (.s (List.map c_api_Page p_d.Loose)), (vb p_d.Down)]), (6, .box [(.v (.slice none 0 0)), (.v (.slice none 0 0)), (vb false)]), (38, .own 5 1 (List.map cU8 x4))]) ⟨Le.refl _, Le.refl _, Le.refl _, Le.refl _, Le.refl _, True.intro⟩ ⟨⟨_, rfl, .refl _⟩, ⟨_, rfl, .refl _⟩, ⟨_, rfl, .refl _⟩, True.intro⟩ rfl) ?_
    refine Ok.seq ?_
    refine Ok.draw (m := 10) (MD := ⟨[]⟩) (CH := ⟨[]⟩) Try.tok Try.mixed (by kernel_rfl) ?_
    obtain ⟨x5, hx5, h⟩ := bindS h
    obtain ⟨hc2, h⟩ := chk_some h
    obtain ⟨x6, hx6, h⟩ := bindS h
    refine ⟨_, rfl, ⟨_, rfl, ⟨_, ⟨(by decide), _, rfl, rfl⟩, ⟨_, ⟨_, idx_nat hx5, idx_ltm hx5, rfl⟩, ⟨_, ⟨_, idx_row hx5, rfl, _, rfl, rfl⟩, ⟨_, rfl, ⟨_, ⟨(by decide), _, rfl, rfl⟩, ⟨_, ⟨hc2, _, b8_shl _ _, rfl⟩, ⟨_, ⟨_, b8_xor x5 ((toU8 (shlK .u8 (1) ((Int.tmod p_bit (8)))))), rfl⟩, ⟨_, ⟨_, idx_nat hx6, idx_ltm hx6, rfl⟩, ⟨True.intro, ⟨_, idx_row hx6, rfl, _, rfl, _, set_row (f := cU8) (x := (x5 ^^^ (toU8 (shlK .u8 (1) ((Int.tmod p_bit (8))))))), ?_⟩⟩⟩⟩⟩⟩⟩⟩⟩⟩⟩⟩
    refine Ok.wk (Wk.tab (L := [(3, (.b 3 0)), (6, (.b 6 0)), (7, (vi x1)), (8, (.o 38))]) (H' := [(3, .box [(.s (List.map c_api_Page p_d.Synced)), (.s (List.map c_api_Page p_d.Loose)), (vb p_d.Down)]), (6, .box [(.v (.slice none 0 0)), (.v (.slice none 0 0)), (vb false)]), (38, .own 5 1 (List.map cU8 ((x4.set ((quoK .i64 p_bit (8))).toNat (x5 ^^^ (toU8 (shlK .u8 (1) ((Int.tmod p_bit (8))))))))))]) ⟨Le.refl _, Le.refl _, Le.refl _, Le.refl _, True.intro⟩ ⟨⟨_, rfl, .refl _⟩, ⟨_, rfl, .refl _⟩, ⟨_, rfl, .refl _⟩, True.intro⟩ rfl) ?_
    refine Ok.seq ?_
    refine Ok.region Try.tok ?_
    obtain ⟨x7, hx7, h⟩ := bindS h
    refine ⟨_, rfl, ?_⟩
    refine CallOk.own (D := 51) (wo_slices_Clone_api_Page_api_Page hx7) (LeL.refl _) rfl ?_
    refine ⟨_, rfl, ?_⟩
    refine Ok.wk (Wk.tab (L := [(3, (.b 3 0)), (6, (.b 6 0)), (7, (vi x1)), (8, (.o 38))]) (H' := [(3, .box [(.o 51), (.s (List.map c_api_Page p_d.Loose)), (vb p_d.Down)]), (51, .own 48 2 (List.map c_api_Page x7)), (6, .box [(.v (.slice none 0 0)), (.v (.slice none 0 0)), (vb false)]), (38, .own 5 1 (List.map cU8 ((x4.set ((quoK .i64 p_bit (8))).toNat (x5 ^^^ (toU8 (shlK .u8 (1) ((Int.tmod p_bit (8))))))))))]) ⟨Le.refl _, Le.refl _, Le.refl _, Le.refl _, True.intro⟩ ⟨⟨_, rfl, .refl _⟩, ⟨_, rfl, .refl _⟩, ⟨_, rfl, .refl _⟩, ⟨_, rfl, .refl _⟩, True.intro⟩ rfl) ?_
    refine Ok.seq ?_
    refine Ok.wk (Wk.freeze (id := 38) rfl) ?_
    refine Ok.region Try.tok ?_
    obtain ⟨x8, hx8, h⟩ := bindS h
    refine ⟨_, rfl, ⟨_, idx_nat hx8, idx_ltm hx8, ⟨_, idx_row hx8, rfl, _, rfl, _, set_row (f := c_api_Page) (x := (⟨x8.At, (x4.set ((quoK .i64 p_bit (8))).toNat (x5 ^^^ (toU8 (shlK .u8 (1) ((Int.tmod p_bit (8)))))))⟩ : api_Page)), ?_⟩⟩⟩
    refine Ok.wk (Wk.tab (L := [(3, (.b 3 0)), (6, (.b 6 0))]) (H' := [(3, .box [(.o 51), (.s (List.map c_api_Page p_d.Loose)), (vb p_d.Down)]), (51, .own 48 2 (List.map c_api_Page ((x7.set x1.toNat (⟨x8.At, (x4.set ((quoK .i64 p_bit (8))).toNat (x5 ^^^ (toU8 (shlK .u8 (1) ((Int.tmod p_bit (8)))))))⟩ : api_Page))))), (6, .box [(.v (.slice none 0 0)), (.v (.slice none 0 0)), (vb false)])]) ⟨Le.refl _, Le.refl _, True.intro⟩ ⟨⟨_, rfl, .refl _⟩, ⟨_, rfl, .refl _⟩, ⟨_, rfl, .refl _⟩, True.intro⟩ rfl) ?_
    refine Ok.seq ?_
    refine Ok.region Try.tok ?_
    refine ⟨_, rfl, ⟨_, rfl, ?_⟩⟩
    refine Ok.wk (Wk.tab (L := [(6, (.b 6 0))]) (H' := [(6, .box [(.o 51), (.s (List.map c_api_Page p_d.Loose)), (vb p_d.Down)]), (51, .own 48 2 (List.map c_api_Page ((x7.set x1.toNat (⟨x8.At, (x4.set ((quoK .i64 p_bit (8))).toNat (x5 ^^^ (toU8 (shlK .u8 (1) ((Int.tmod p_bit (8)))))))⟩ : api_Page)))))]) ⟨Le.refl _, True.intro⟩ ⟨⟨_, rfl, .refl _⟩, ⟨_, rfl, .refl _⟩, True.intro⟩ rfl) ?_
    refine Ok.ret ?_
    cases h
    exact ⟨_, rfl, (Fz.a (.cons (Fz.o rfl) (.cons Fz.s (.cons Fz.v .nil))))⟩

theorem w_disk_Sync [Off] {p_d : api_Disk} {r : api_Disk × Int} (h : disk_Sync p_d = some r) : Pure Try.prog 20 [(.a [(.s (List.map c_api_Page p_d.Synced)), (.s (List.map c_api_Page p_d.Loose)), (vb p_d.Down)])] (.t [(.a [(.s (List.map c_api_Page r.1.Synced)), (.s (List.map c_api_Page r.1.Loose)), (vb r.1.Down)]), (vi r.2)]) := by
  refine pure_of_ok (n := 13) (c := (Try.f20.body.getD .skip)) Try.tok Try.func20 (by kernel_rfl) rfl rfl (Nat.le_of_ble_eq_true rfl) ?_
  unfold disk_Sync at h
  refine Ok.wk (Wk.tab (L := [(0, (.a [(.s (List.map c_api_Page p_d.Synced)), (.s (List.map c_api_Page p_d.Loose)), (vb p_d.Down)]))]) (H' := []) ⟨Le.refl _, True.intro⟩ True.intro rfl) ?_
  refine Ok.seq ?_
  refine Ok.region Try.tok ?_
  refine Ok.wk (Wk.tab (L := [(1, (.b 1 0)), (2, (.b 2 0))]) (H' := [(1, .box [(.s (List.map c_api_Page p_d.Synced)), (.s (List.map c_api_Page p_d.Loose)), (vb p_d.Down)]), (2, .box [(.v (.slice none 0 0)), (.v (.slice none 0 0)), (vb false)])]) ⟨Le.refl _, Le.refl _, True.intro⟩ ⟨⟨_, rfl, .refl _⟩, ⟨_, rfl, .refl _⟩, True.intro⟩ rfl) ?_
  refine Ok.seq ?_
  refine Ok.seq ?_
  refine Ok.region Try.tok ?_
  refine ⟨_, rfl, ?_⟩
  refine Ok.wk (Wk.tab (L := [(1, (.b 1 0)), (2, (.b 2 0)), (5, (vb p_d.Down))]) (H' := [(1, .box [(.s (List.map c_api_Page p_d.Synced)), (.s (List.map c_api_Page p_d.Loose)), (vb p_d.Down)]), (2, .box [(.v (.slice none 0 0)), (.v (.slice none 0 0)), (vb false)])]) ⟨Le.refl _, Le.refl _, Le.refl _, True.intro⟩ ⟨⟨_, rfl, .refl _⟩, ⟨_, rfl, .refl _⟩, True.intro⟩ rfl) ?_
  refine Ok.cond (d := 5) (b := p_d.Down) rfl h (fun hb h => ?_) fun hb h => ?_
  · refine Ok.seq ?_
    refine Ok.region Try.tok ?_
    refine ⟨_, rfl, ⟨_, rfl, ?_⟩⟩
    refine Ok.wk (Wk.tab (L := [(2, (.b 2 0)), (3, (vi (40)))]) (H' := [(2, .box [(.s (List.map c_api_Page p_d.Synced)), (.s (List.map c_api_Page p_d.Loose)), (vb p_d.Down)])]) ⟨Le.refl _, Le.refl _, True.intro⟩ ⟨⟨_, rfl, .refl _⟩, True.intro⟩ rfl) ?_
    refine Ok.ret ?_
    cases h
    exact ⟨_, rfl, (Fz.t (.cons (Fz.imm rfl) (.cons Fz.v .nil)))⟩
  · refine Ok.skip ?_
    refine Ok.seq ?_
    refine Ok.region Try.tok ?_
    obtain ⟨x1, hx1, h⟩ := bindS h
    refine ⟨_, rfl, ⟨_, rfl, ?_⟩⟩
    refine CallOk.call (w_disk_laid hx1) (LeL.refl _) ?_
    refine ⟨_, rfl, ?_⟩
    refine Ok.wk (Wk.tab (L := [(2, (.b 2 0)), (3, (vi (0)))]) (H' := [(2, .box [(.s (List.map c_api_Page x1)), (.v (.slice none 0 0)), (vb false)])]) ⟨Le.refl _, Le.refl _, True.intro⟩ ⟨⟨_, rfl, .refl _⟩, True.intro⟩ rfl) ?_
    refine Ok.ret ?_
    cases h
    exact ⟨_, rfl, (Fz.t (.cons (Fz.a (.cons Fz.s (.cons Fz.nil (.cons Fz.v .nil)))) (.cons Fz.v .nil)))⟩

theorem w_ref04_Bytes {p_a : List UInt8} {p_b : List UInt8} {r : Bool} (h : ref04_Bytes p_a p_b = some r) : Pure Try.prog 18 [(.s (List.map cU8 p_a)), (.s (List.map cU8 p_b))] (vb r) := by
  refine pure_of_ok (n := 26) (c := (Try.f18.body.getD .skip)) Try.tok Try.func18 (by kernel_rfl) rfl rfl (Nat.le_of_ble_eq_true rfl) ?_
  unfold ref04_Bytes at h
  refine Ok.wk (Wk.tab (L := [(0, (.s (List.map cU8 p_a))), (1, (.s (List.map cU8 p_b)))]) (H' := []) ⟨Le.refl _, Le.refl _, True.intro⟩ True.intro rfl) ?_
  refine Ok.seq ?_
  refine Ok.region Try.tok ?_
  refine Ok.wk (Wk.tab (L := [(0, (.s (List.map cU8 p_a))), (1, (.s (List.map cU8 p_b)))]) (H' := []) ⟨Le.refl _, Le.refl _, True.intro⟩ True.intro rfl) ?_
  refine Ok.seq ?_
  refine Ok.seq ?_
  refine Ok.region Try.tok ?_
  refine ⟨_, List.length_map _, fun _ => ⟨_, List.length_map _, fun _ => ?_⟩⟩
  refine Ok.wk (Wk.tab (L := [(0, (.s (List.map cU8 p_a))), (1, (.s (List.map cU8 p_b))), (10, (vb (((p_a.length : Int) != (p_b.length : Int)))))]) (H' := []) ⟨Le.refl _, Le.refl _, Le.refl _, True.intro⟩ True.intro rfl) ?_
  refine Ok.cond (d := 10) (b := ((p_a.length : Int) != (p_b.length : Int))) rfl h (fun hb h => ?_) fun hb h => ?_
  · refine Ok.seq ?_
    refine Ok.region Try.tok ?_
    refine Ok.wk (Wk.tab (L := [(4, (vb false))]) (H' := []) ⟨Le.refl _, True.intro⟩ True.intro rfl) ?_
    refine Ok.ret ?_
    cases h
    exact Fz.v
  · refine Ok.skip ?_
    refine Ok.seqj (fun v1 => ⟨Cat.tab [], []⟩) (fun v1 => ref04_Bytes_J1 v1 = some r) ?_ ?_
    · refine Ok.seq ?_
      refine Ok.region Try.tok ?_
      refine Ok.wk (Wk.tab (L := [(0, (.s (List.map cU8 p_a))), (1, (.s (List.map cU8 p_b))), (5, (vi (0)))]) (H' := []) ⟨Le.refl _, Le.refl _, Le.refl _, True.intro⟩ True.intro rfl) ?_
      refine Ok.block ?_
      refine Ok.loop (fun (s1 : Int) => ⟨Cat.tab [(0, (.s (List.map cU8 p_a))), (1, (.s (List.map cU8 p_b))), (5, (vi s1))], []⟩) (ref04_Bytes_B1 p_a p_b) (s0 := 0) h (Wk.tab ⟨Le.refl _, Le.refl _, Le.refl _, True.intro⟩ True.intro rfl) ?_
      intro s1 y1 hB1 hy1
      unfold ref04_Bytes_B1 at hB1
      refine Ok.seq ?_
      refine Ok.seq ?_
      refine Ok.region Try.tok ?_
      refine ⟨_, List.length_map _, fun _ => ?_⟩
      refine Ok.wk (Wk.tab (L := [(0, (.s (List.map cU8 p_a))), (1, (.s (List.map cU8 p_b))), (5, (vi s1)), (14, (vb ((decide (s1 < (p_a.length : Int))))))]) (H' := []) ⟨Le.refl _, Le.refl _, Le.refl _, Le.refl _, True.intro⟩ True.intro rfl) ?_
      refine Ok.cond (d := 14) (b := (decide (s1 < (p_a.length : Int)))) rfl hB1 (fun hb hB1 => ?_) fun hb hB1 => ?_
      · refine Ok.skip ?_
        refine Ok.seq ?_
        refine Ok.block ?_
        refine Ok.seq ?_
        refine Ok.draw (m := 9) (MD := ⟨[]⟩) (CH := ⟨[]⟩) Try.tok Try.mixed (by kernel_rfl) ?_
        obtain ⟨x1, hx1, hB1⟩ := bindS hB1
        obtain ⟨x2, hx2, hB1⟩ := bindS hB1
        refine ⟨_, rfl, ⟨_, rfl, ⟨_, ⟨_, idx_nat hx1, _, idx_row hx1, rfl⟩, ⟨_, ⟨_, rfl, rfl⟩, ⟨_, rfl, ⟨_, rfl, ⟨_, ⟨_, idx_nat hx2, _, idx_row hx2, rfl⟩, ⟨_, ⟨_, rfl, rfl⟩, ⟨_, rfl, ⟨True.intro, ?_⟩⟩⟩⟩⟩⟩⟩⟩⟩⟩
        refine Ok.wk (Wk.tab (L := [(0, (.s (List.map cU8 p_a))), (1, (.s (List.map cU8 p_b))), (5, (vi s1)), (25, (vb (((x1.toNat : Int) != (x2.toNat : Int)))))]) (H' := []) ⟨Le.refl _, Le.refl _, Le.refl _, Le.refl _, True.intro⟩ True.intro rfl) ?_
        refine Ok.cond (d := 25) (b := ((x1.toNat : Int) != (x2.toNat : Int))) rfl hB1 (fun hb hB1 => ?_) fun hb hB1 => ?_
        · refine Ok.seq ?_
          refine Ok.region Try.tok ?_
          refine Ok.wk (Wk.tab (L := [(4, (vb false))]) (H' := []) ⟨Le.refl _, True.intro⟩ True.intro rfl) ?_
          refine Ok.ret ?_
          have hB1 := out_ret hB1 hy1
          cases hB1
          exact Fz.v
        · refine Ok.skip ?_
          refine Ok.region Try.tok ?_
          obtain ⟨hc1, hB1⟩ := chk_some hB1
          refine (Or.inl ⟨hc1, ?_⟩)
          exact ⟨_, (Option.some.inj hB1).symm, Wk.tab ⟨Le.refl _, Le.refl _, Le.refl _, True.intro⟩ True.intro rfl⟩
      · refine Ok.exit ?_
        have hB1 := out_ret hB1 hy1
        exact ⟨_, hB1, Wk.tab True.intro True.intro rfl⟩
    intro v1 h
    unfold ref04_Bytes_J1 at h
    refine Ok.seq ?_
    refine Ok.region Try.tok ?_
    refine Ok.wk (Wk.tab (L := [(4, (vb true))]) (H' := []) ⟨Le.refl _, True.intro⟩ True.intro rfl) ?_
    refine Ok.ret ?_
    cases h
    exact Fz.v

theorem w_disk_Right_1 {p_p : api_Page} {r : Bool} (h : disk_Right_1 p_p = some r) : Pure Try.prog 25 [(.a [(vi p_p.At), (.s (List.map cU8 p_p.Data))])] (vb r) := by
  refine pure_of_ok (n := 9) (c := (Try.f25.body.getD .skip)) Try.tok Try.func25 (by kernel_rfl) rfl rfl (Nat.le_of_ble_eq_true rfl) ?_
  unfold disk_Right_1 at h
  refine Ok.wk (Wk.tab (L := [(0, (.a [(vi p_p.At), (.s (List.map cU8 p_p.Data))]))]) (H' := []) ⟨Le.refl _, True.intro⟩ True.intro rfl) ?_
  refine Ok.seq ?_
  refine Ok.region Try.tok ?_
  refine Ok.wk (Wk.tab (L := [(1, (.b 1 0))]) (H' := [(1, .box [(vi p_p.At), (.s (List.map cU8 p_p.Data))])]) ⟨Le.refl _, True.intro⟩ ⟨⟨_, rfl, .refl _⟩, True.intro⟩ rfl) ?_
  refine Ok.seq ?_
  refine Ok.region Try.tok ?_
  obtain ⟨x1, hx1, h⟩ := bindS h
  refine ⟨_, rfl, ⟨_, rfl, ?_⟩⟩
  refine CallOk.call (w_disk_may hx1) (LeL.refl _) ?_
  refine Ok.wk (Wk.tab (L := [(2, (vb ((!x1))))]) (H' := []) ⟨Le.refl _, True.intro⟩ True.intro rfl) ?_
  refine Ok.ret ?_
  cases h
  exact Fz.v

theorem w_slices_IndexFunc_api_Page_api_Page__disk_Right_1 {p_s : List api_Page} {r : Int} (h : slices_IndexFunc_api_Page_api_Page__disk_Right_1 p_s = some r) : Pure Try.prog 41 [(.s (List.map c_api_Page p_s)), (.c (.func 25) [] [])] (vi r) := by
  refine pure_of_ok (n := 19) (c := (Try.f41.body.getD .skip)) Try.tok Try.func41 (by kernel_rfl) rfl rfl (Nat.le_of_ble_eq_true rfl) ?_
  unfold slices_IndexFunc_api_Page_api_Page__disk_Right_1 at h
  refine Ok.wk (Wk.tab (L := [(0, (.s (List.map c_api_Page p_s))), (1, (.c (.func 25) [] []))]) (H' := []) ⟨Le.refl _, Le.refl _, True.intro⟩ True.intro rfl) ?_
  refine Ok.seq ?_
  refine Ok.region Try.tok ?_
  refine Ok.wk (Wk.tab (L := [(0, (.s (List.map c_api_Page p_s))), (1, (.c (.func 25) [] []))]) (H' := []) ⟨Le.refl _, Le.refl _, True.intro⟩ True.intro rfl) ?_
  refine Ok.seqj (fun v1 => ⟨Cat.tab [], []⟩) (fun v1 => slices_IndexFunc_api_Page_api_Page__disk_Right_1_J1 v1 = some r) ?_ ?_
  · refine Ok.seq ?_
    refine Ok.region Try.tok ?_
    refine ⟨_, List.length_map _, fun _ => ?_⟩
    refine Ok.wk (Wk.tab (L := [(0, (.s (List.map c_api_Page p_s))), (1, (.c (.func 25) [] [])), (7, (vi ((p_s.length : Int)))), (8, (vi (0)))]) (H' := []) ⟨Le.refl _, Le.refl _, Le.refl _, Le.refl _, True.intro⟩ True.intro rfl) ?_
    refine Ok.block ?_
    refine Ok.loop (fun (s1 : Int) => ⟨Cat.tab [(0, (.s (List.map c_api_Page p_s))), (1, (.c (.func 25) [] [])), (7, (vi ((p_s.length : Int)))), (8, (vi s1))], []⟩) (slices_IndexFunc_api_Page_api_Page__disk_Right_1_B1 p_s) (s0 := 0) h (Wk.tab ⟨Le.refl _, Le.refl _, Le.refl _, Le.refl _, True.intro⟩ True.intro rfl) ?_
    intro s1 y1 hB1 hy1
    unfold slices_IndexFunc_api_Page_api_Page__disk_Right_1_B1 at hB1
    refine Ok.seq ?_
    refine Ok.region Try.tok ?_
    refine Ok.wk (Wk.tab (L := [(0, (.s (List.map c_api_Page p_s))), (1, (.c (.func 25) [] [])), (7, (vi ((p_s.length : Int)))), (8, (vi s1)), (9, (vb ((decide (s1 < (p_s.length : Int))))))]) (H' := []) ⟨Le.refl _, Le.refl _, Le.refl _, Le.refl _, Le.refl _, True.intro⟩ True.intro rfl) ?_
    refine Ok.seq ?_
    refine Ok.cond (d := 9) (b := (decide (s1 < (p_s.length : Int)))) rfl hB1 (fun hb hB1 => ?_) fun hb hB1 => ?_
    · refine Ok.skip ?_
      refine Ok.seq ?_
      refine Ok.block ?_
      refine Ok.seq ?_
      refine Ok.region Try.tok ?_
      refine Ok.wk (Wk.tab (L := [(0, (.s (List.map c_api_Page p_s))), (1, (.c (.func 25) [] [])), (5, (vi s1)), (7, (vi ((p_s.length : Int)))), (8, (vi s1))]) (H' := []) ⟨Le.refl _, Le.refl _, Le.refl _, Le.refl _, Le.refl _, True.intro⟩ True.intro rfl) ?_
      refine Ok.seq ?_
      refine Ok.region Try.tok ?_
      obtain ⟨x1, hx1, hB1⟩ := bindS hB1
      obtain ⟨x2, hx2, hB1⟩ := bindS hB1
      refine ⟨_, idx_nat hx1, _, idx_row hx1, ⟨_, rfl, ?_⟩⟩
      refine CallOk.call (w_disk_Right_1 hx2) (LeL.refl _) ?_
      refine Ok.wk (Wk.tab (L := [(0, (.s (List.map c_api_Page p_s))), (1, (.c (.func 25) [] [])), (5, (vi s1)), (7, (vi ((p_s.length : Int)))), (8, (vi s1)), (16, (vb x2))]) (H' := []) ⟨Le.refl _, Le.refl _, Le.refl _, Le.refl _, Le.refl _, Le.refl _, True.intro⟩ True.intro rfl) ?_
      refine Ok.cond (d := 16) (b := x2) rfl hB1 (fun hb hB1 => ?_) fun hb hB1 => ?_
      · refine Ok.seq ?_
        refine Ok.region Try.tok ?_
        refine Ok.wk (Wk.tab (L := [(4, (vi s1))]) (H' := []) ⟨Le.refl _, True.intro⟩ True.intro rfl) ?_
        refine Ok.ret ?_
        have hB1 := out_ret hB1 hy1
        cases hB1
        exact Fz.v
      · refine Ok.skip ?_
        refine Ok.region Try.tok ?_
        obtain ⟨hc1, hB1⟩ := chk_some hB1
        refine (Or.inl ⟨hc1, ?_⟩)
        exact ⟨_, (Option.some.inj hB1).symm, Wk.tab ⟨Le.refl _, Le.refl _, Le.refl _, Le.refl _, True.intro⟩ True.intro rfl⟩
    · refine Ok.exit ?_
      have hB1 := out_ret hB1 hy1
      exact ⟨_, hB1, Wk.tab True.intro True.intro rfl⟩
  intro v1 h
  unfold slices_IndexFunc_api_Page_api_Page__disk_Right_1_J1 at h
  refine Ok.seq ?_
  refine Ok.region Try.tok ?_
  refine Ok.wk (Wk.tab (L := [(4, (vi ((-1))))]) (H' := []) ⟨Le.refl _, True.intro⟩ True.intro rfl) ?_
  refine Ok.ret ?_
  cases h
  exact Fz.v

theorem w_disk_find_api_Page__disk_Right_1 {p_l : List api_Page} {r : Int} (h : disk_find_api_Page__disk_Right_1 p_l = some r) : Pure Try.prog 27 [(.s (List.map c_api_Page p_l)), (.c (.func 25) [] [])] (vi r) := by
  refine pure_of_ok (n := 8) (c := (Try.f27.body.getD .skip)) Try.tok Try.func27 (by kernel_rfl) rfl rfl (Nat.le_of_ble_eq_true rfl) ?_
  unfold disk_find_api_Page__disk_Right_1 at h
  refine Ok.wk (Wk.tab (L := [(0, (.s (List.map c_api_Page p_l))), (1, (.c (.func 25) [] []))]) (H' := []) ⟨Le.refl _, Le.refl _, True.intro⟩ True.intro rfl) ?_
  refine Ok.seq ?_
  refine Ok.region Try.tok ?_
  refine Ok.wk (Wk.tab (L := [(0, (.s (List.map c_api_Page p_l))), (1, (.c (.func 25) [] []))]) (H' := []) ⟨Le.refl _, Le.refl _, True.intro⟩ True.intro rfl) ?_
  refine Ok.seq ?_
  refine Ok.region Try.tok ?_
  obtain ⟨x1, hx1, h⟩ := bindS h
  refine CallOk.call (w_slices_IndexFunc_api_Page_api_Page__disk_Right_1 hx1) (LeL.refl _) ?_
  refine Ok.wk (Wk.tab (L := [(4, (vi x1))]) (H' := []) ⟨Le.refl _, True.intro⟩ True.intro rfl) ?_
  refine Ok.ret ?_
  cases h
  exact Fz.v

theorem w_disk_Right {p_d : api_Disk} {r : Bool} (h : disk_Right p_d = some r) : Pure Try.prog 10 [(.a [(.s (List.map c_api_Page p_d.Synced)), (.s (List.map c_api_Page p_d.Loose)), (vb p_d.Down)])] (vb r) := by
  refine pure_of_ok (n := 48) (c := (Try.f10.body.getD .skip)) Try.tok Try.func10 (by kernel_rfl) rfl rfl (Nat.le_of_ble_eq_true rfl) ?_
  unfold disk_Right at h
  refine Ok.wk (Wk.tab (L := [(0, (.a [(.s (List.map c_api_Page p_d.Synced)), (.s (List.map c_api_Page p_d.Loose)), (vb p_d.Down)]))]) (H' := []) ⟨Le.refl _, True.intro⟩ True.intro rfl) ?_
  refine Ok.seq ?_
  refine Ok.region Try.tok ?_
  refine Ok.wk (Wk.tab (L := [(1, (.b 1 0))]) (H' := [(1, .box [(.s (List.map c_api_Page p_d.Synced)), (.s (List.map c_api_Page p_d.Loose)), (vb p_d.Down)])]) ⟨Le.refl _, True.intro⟩ ⟨⟨_, rfl, .refl _⟩, True.intro⟩ rfl) ?_
  refine Ok.seq ?_
  refine Ok.region Try.tok ?_
  refine Ok.wk (Wk.tab (L := [(1, (.b 1 0)), (3, (.c (.func 25) [] []))]) (H' := [(1, .box [(.s (List.map c_api_Page p_d.Synced)), (.s (List.map c_api_Page p_d.Loose)), (vb p_d.Down)])]) ⟨Le.refl _, Le.refl _, True.intro⟩ ⟨⟨_, rfl, .refl _⟩, True.intro⟩ rfl) ?_
  refine Ok.seq ?_
  obtain ⟨v1, hv1, h⟩ := bindS h
  refine Ok.seqw ⟨Cat.tab [(1, (.b 1 0)), (26, (vb v1))], [(1, .box [(.s (List.map c_api_Page p_d.Synced)), (.s (List.map c_api_Page p_d.Loose)), (vb p_d.Down)])]⟩ ?_ ?_
  · refine Ok.region Try.tok ?_
    obtain ⟨x1, hx1, hv1⟩ := bindS hv1
    refine ⟨_, rfl, ?_⟩
    refine CallOk.call (w_disk_find_api_Page__disk_Right_1 hx1) (LeL.refl _) ?_
    obtain ⟨c1, hg1, hv1⟩ := bindS hv1
    refine Br.itf hg1 (fun hb hg1 => ?_) fun hb hg1 => ?_
    · cases hg1
      obtain ⟨c3, hg2, hv1⟩ := bindS hv1
      replace hg2 := iteT hg2
      cases hg2
      cases hv1
      exact Wk.tab ⟨Le.refl _, Le.refl _, True.intro⟩ ⟨⟨_, rfl, .refl _⟩, True.intro⟩ rfl
    · obtain ⟨x2, hx2, hg1⟩ := bindS hg1
      refine ⟨_, rfl, ?_⟩
      refine CallOk.call (w_disk_find_api_Page__disk_Right_1 hx2) (LeL.refl _) ?_
      cases hg1
      obtain ⟨c3, hg3, hv1⟩ := bindS hv1
      refine Br.itf hg3 (fun hb hg3 => ?_) fun hb hg3 => ?_
      · cases hg3
        cases hv1
        exact Wk.tab ⟨Le.refl _, Le.refl _, True.intro⟩ ⟨⟨_, rfl, .refl _⟩, True.intro⟩ rfl
      · refine ⟨_, rfl, ?_⟩
        obtain ⟨c2, hg4, hg3⟩ := bindS hg3
        refine Br.ite hg4 (fun hb hg4 => ?_) fun hb hg4 => ?_
        · refine ⟨_, rfl, ⟨_, List.length_map _, fun _ => ?_⟩⟩
          cases hg4
          cases hg3
          cases hv1
          exact Wk.tab ⟨Le.refl _, Le.refl _, True.intro⟩ ⟨⟨_, rfl, .refl _⟩, True.intro⟩ rfl
        · cases hg4
          cases hg3
          cases hv1
          exact Wk.tab ⟨Le.refl _, Le.refl _, True.intro⟩ ⟨⟨_, rfl, .refl _⟩, True.intro⟩ rfl
  refine Ok.cond (d := 26) (b := v1) rfl h (fun hb h => ?_) fun hb h => ?_
  · refine Ok.seq ?_
    refine Ok.region Try.tok ?_
    refine Ok.wk (Wk.tab (L := [(2, (vb false))]) (H' := []) ⟨Le.refl _, True.intro⟩ True.intro rfl) ?_
    refine Ok.ret ?_
    cases h
    exact Fz.v
  · refine Ok.skip ?_
    refine Ok.seqj (fun v2 => ⟨Cat.tab [], []⟩) (fun v2 => disk_Right_J1 v2 = some r) ?_ ?_
    · refine Ok.seq ?_
      refine Ok.region Try.tok ?_
      refine Ok.wk (Wk.tab (L := [(1, (.b 1 0)), (4, (vi (1)))]) (H' := [(1, .box [(.s (List.map c_api_Page p_d.Synced)), (.s (List.map c_api_Page p_d.Loose)), (vb p_d.Down)])]) ⟨Le.refl _, Le.refl _, True.intro⟩ ⟨⟨_, rfl, .refl _⟩, True.intro⟩ rfl) ?_
      refine Ok.block ?_
      refine Ok.loop (fun (s1 : Int) => ⟨Cat.tab [(1, (.b 1 0)), (4, (vi s1))], [(1, .box [(.s (List.map c_api_Page p_d.Synced)), (.s (List.map c_api_Page p_d.Loose)), (vb p_d.Down)])]⟩) (disk_Right_B1 p_d) (s0 := 1) h (Wk.tab ⟨Le.refl _, Le.refl _, True.intro⟩ ⟨⟨_, rfl, .refl _⟩, True.intro⟩ rfl) ?_
      intro s1 y1 hB1 hy1
      unfold disk_Right_B1 at hB1
      refine Ok.seq ?_
      refine Ok.seq ?_
      refine Ok.region Try.tok ?_
      refine ⟨_, rfl, ⟨_, List.length_map _, fun _ => ?_⟩⟩
      refine Ok.wk (Wk.tab (L := [(1, (.b 1 0)), (4, (vi s1)), (31, (vb ((decide (s1 < (p_d.Synced.length : Int))))))]) (H' := [(1, .box [(.s (List.map c_api_Page p_d.Synced)), (.s (List.map c_api_Page p_d.Loose)), (vb p_d.Down)])]) ⟨Le.refl _, Le.refl _, Le.refl _, True.intro⟩ ⟨⟨_, rfl, .refl _⟩, True.intro⟩ rfl) ?_
      refine Ok.cond (d := 31) (b := (decide (s1 < (p_d.Synced.length : Int)))) rfl hB1 (fun hb hB1 => ?_) fun hb hB1 => ?_
      · refine Ok.skip ?_
        refine Ok.seq ?_
        refine Ok.block ?_
        refine Ok.seq ?_
        refine Ok.draw (m := 14) (MD := ⟨[]⟩) (CH := ⟨[]⟩) Try.tok Try.mixed (by kernel_rfl) ?_
        obtain ⟨hc1, hB1⟩ := chk_some hB1
        obtain ⟨x3, hx3, hB1⟩ := bindS hB1
        obtain ⟨x4, hx4, hB1⟩ := bindS hB1
        refine ⟨_, rfl, ⟨_, ⟨_, rfl, rfl⟩, ⟨_, rfl, ⟨_, (Or.inl ⟨hc1, rfl⟩), ⟨_, ⟨_, idx_nat hx3, _, idx_row hx3, rfl⟩, ⟨_, rfl, ⟨_, ⟨_, rfl, rfl⟩, ⟨_, rfl, ⟨_, ⟨_, rfl, rfl⟩, ⟨_, rfl, ⟨_, ⟨_, idx_nat hx4, _, idx_row hx4, rfl⟩, ⟨_, rfl, ⟨_, ⟨_, rfl, rfl⟩, ⟨_, rfl, ⟨True.intro, ?_⟩⟩⟩⟩⟩⟩⟩⟩⟩⟩⟩⟩⟩⟩⟩
        refine Ok.wk (Wk.tab (L := [(1, (.b 1 0)), (4, (vi s1)), (47, (vb ((decide (x3.At ≥ x4.At)))))]) (H' := [(1, .box [(.s (List.map c_api_Page p_d.Synced)), (.s (List.map c_api_Page p_d.Loose)), (vb p_d.Down)])]) ⟨Le.refl _, Le.refl _, Le.refl _, True.intro⟩ ⟨⟨_, rfl, .refl _⟩, True.intro⟩ rfl) ?_
        refine Ok.cond (d := 47) (b := (decide (x3.At ≥ x4.At))) rfl hB1 (fun hb hB1 => ?_) fun hb hB1 => ?_
        · refine Ok.seq ?_
          refine Ok.region Try.tok ?_
          refine Ok.wk (Wk.tab (L := [(2, (vb false))]) (H' := []) ⟨Le.refl _, True.intro⟩ True.intro rfl) ?_
          refine Ok.ret ?_
          have hB1 := out_ret hB1 hy1
          cases hB1
          exact Fz.v
        · refine Ok.skip ?_
          refine Ok.region Try.tok ?_
          obtain ⟨hc2, hB1⟩ := chk_some hB1
          refine (Or.inl ⟨hc2, ?_⟩)
          exact ⟨_, (Option.some.inj hB1).symm, Wk.tab ⟨Le.refl _, Le.refl _, True.intro⟩ ⟨⟨_, rfl, .refl _⟩, True.intro⟩ rfl⟩
      · refine Ok.exit ?_
        have hB1 := out_ret hB1 hy1
        exact ⟨_, hB1, Wk.tab True.intro True.intro rfl⟩
    intro v2 h
    unfold disk_Right_J1 at h
    refine Ok.seq ?_
    refine Ok.region Try.tok ?_
    refine Ok.wk (Wk.tab (L := [(2, (vb true))]) (H' := []) ⟨Le.refl _, True.intro⟩ True.intro rfl) ?_
    refine Ok.ret ?_
    cases h
    exact Fz.v

theorem w_law04_head [Off] {r : Bool} (h : law04_head = some r) : Pure Try.prog 9 [] (vb r) := by
  refine pure_of_ok (n := 158) (c := (Try.f9.body.getD .skip)) Try.tok Try.func9 (by kernel_rfl) rfl rfl (Nat.le_of_ble_eq_true rfl) ?_
  unfold law04_head at h
  refine Ok.wk (Wk.tab (L := []) (H' := []) True.intro True.intro rfl) ?_
  refine Ok.seq ?_
  refine Ok.region Try.tok ?_
  refine Ok.wk (Wk.tab (L := []) (H' := []) True.intro True.intro rfl) ?_
  refine Ok.seq ?_
  refine Ok.region Try.tok ?_
  obtain ⟨x1, hx1, h⟩ := bindS h
  refine CallOk.call (w_disk_New hx1) (LeL.refl _) ?_
  obtain ⟨x2, hx2, h⟩ := bindS h
  refine Or.inl ?_
  refine CallOk.call (w_disk_Write hx2) (LeL.refl _) ?_
  refine ⟨_, rfl, ?_⟩
  refine Ok.wk (Wk.tab (L := [(1, (.b 1 0)), (2, (vi x2.2))]) (H' := [(1, .box [(.s (List.map c_api_Page x2.1.Synced)), (.s (List.map c_api_Page x2.1.Loose)), (vb x2.1.Down)])]) ⟨Le.refl _, Le.refl _, True.intro⟩ ⟨⟨_, rfl, .refl _⟩, True.intro⟩ rfl) ?_
  refine Ok.seq ?_
  refine Ok.region Try.tok ?_
  obtain ⟨x3, hx3, h⟩ := bindS h
  refine ⟨_, rfl, Or.inl ?_⟩
  refine CallOk.call (w_disk_Write hx3) (LeL.refl _) ?_
  refine ⟨_, rfl, ?_⟩
  refine Ok.wk (Wk.tab (L := [(1, (.b 1 0)), (2, (vi x2.2)), (3, (vi x3.2))]) (H' := [(1, .box [(.s (List.map c_api_Page x3.1.Synced)), (.s (List.map c_api_Page x3.1.Loose)), (vb x3.1.Down)])]) ⟨Le.refl _, Le.refl _, Le.refl _, True.intro⟩ ⟨⟨_, rfl, .refl _⟩, True.intro⟩ rfl) ?_
  refine Ok.seq ?_
  refine Ok.region Try.tok ?_
  obtain ⟨x4, hx4, h⟩ := bindS h
  refine ⟨_, rfl, ?_⟩
  refine CallOk.call (w_disk_Read hx4) (LeL.refl _) ?_
  refine Ok.wk (Wk.tab (L := [(1, (.b 1 0)), (2, (vi x2.2)), (3, (vi x3.2)), (4, (.s (List.map cU8 x4.1))), (5, (vi x4.2))]) (H' := [(1, .box [(.s (List.map c_api_Page x3.1.Synced)), (.s (List.map c_api_Page x3.1.Loose)), (vb x3.1.Down)])]) ⟨Le.refl _, Le.refl _, Le.refl _, Le.refl _, Le.refl _, True.intro⟩ ⟨⟨_, rfl, .refl _⟩, True.intro⟩ rfl) ?_
  refine Ok.seq ?_
  refine Ok.region Try.tok ?_
  obtain ⟨x5, hx5, h⟩ := bindS h
  refine ⟨_, rfl, ?_⟩
  refine CallOk.call (w_disk_Crash hx5) (LeL.refl _) ?_
  refine ⟨_, rfl, ?_⟩
  refine Ok.wk (Wk.tab (L := [(1, (.b 1 0)), (2, (vi x2.2)), (3, (vi x3.2)), (4, (.s (List.map cU8 x4.1))), (5, (vi x4.2)), (6, (.b 6 0))]) (H' := [(1, .box [(.s (List.map c_api_Page x3.1.Synced)), (.s (List.map c_api_Page x3.1.Loose)), (vb x3.1.Down)]), (6, .box [(.s (List.map c_api_Page x5.Synced)), (.s (List.map c_api_Page x5.Loose)), (vb x5.Down)])]) ⟨Le.refl _, Le.refl _, Le.refl _, Le.refl _, Le.refl _, Le.refl _, True.intro⟩ ⟨⟨_, rfl, .refl _⟩, ⟨_, rfl, .refl _⟩, True.intro⟩ rfl) ?_
  refine Ok.seq ?_
  refine Ok.region Try.tok ?_
  obtain ⟨x6, hx6, h⟩ := bindS h
  refine ⟨_, rfl, ?_⟩
  refine CallOk.call (w_disk_Read hx6) (LeL.refl _) ?_
  refine Ok.wk (Wk.tab (L := [(1, (.b 1 0)), (2, (vi x2.2)), (3, (vi x3.2)), (4, (.s (List.map cU8 x4.1))), (5, (vi x4.2)), (6, (.b 6 0)), (8, (vi x6.2))]) (H' := [(1, .box [(.s (List.map c_api_Page x3.1.Synced)), (.s (List.map c_api_Page x3.1.Loose)), (vb x3.1.Down)]), (6, .box [(.s (List.map c_api_Page x5.Synced)), (.s (List.map c_api_Page x5.Loose)), (vb x5.Down)])]) ⟨Le.refl _, Le.refl _, Le.refl _, Le.refl _, Le.refl _, Le.refl _, Le.refl _, True.intro⟩ ⟨⟨_, rfl, .refl _⟩, ⟨_, rfl, .refl _⟩, True.intro⟩ rfl) ?_
  refine Ok.seq ?_
  refine Ok.region Try.tok ?_
  obtain ⟨x7, hx7, h⟩ := bindS h
  refine ⟨_, rfl, ?_⟩
  refine CallOk.call (w_disk_Up hx7) (LeL.refl _) ?_
  refine ⟨_, rfl, ?_⟩
  refine Ok.wk (Wk.tab (L := [(1, (.b 1 0)), (2, (vi x2.2)), (3, (vi x3.2)), (4, (.s (List.map cU8 x4.1))), (5, (vi x4.2)), (6, (.b 6 0)), (8, (vi x6.2)), (9, (.b 9 0))]) (H' := [(1, .box [(.s (List.map c_api_Page x3.1.Synced)), (.s (List.map c_api_Page x3.1.Loose)), (vb x3.1.Down)]), (6, .box [(.s (List.map c_api_Page x5.Synced)), (.s (List.map c_api_Page x5.Loose)), (vb x5.Down)]), (9, .box [(.s (List.map c_api_Page x7.Synced)), (.s (List.map c_api_Page x7.Loose)), (vb x7.Down)])]) ⟨Le.refl _, Le.refl _, Le.refl _, Le.refl _, Le.refl _, Le.refl _, Le.refl _, Le.refl _, True.intro⟩ ⟨⟨_, rfl, .refl _⟩, ⟨_, rfl, .refl _⟩, ⟨_, rfl, .refl _⟩, True.intro⟩ rfl) ?_
  refine Ok.seq ?_
  refine Ok.region Try.tok ?_
  obtain ⟨x8, hx8, h⟩ := bindS h
  refine ⟨_, rfl, ?_⟩
  refine CallOk.call (w_disk_Read hx8) (LeL.refl _) ?_
  refine Ok.wk (Wk.tab (L := [(1, (.b 1 0)), (2, (vi x2.2)), (3, (vi x3.2)), (4, (.s (List.map cU8 x4.1))), (5, (vi x4.2)), (6, (.b 6 0)), (8, (vi x6.2)), (9, (.b 9 0)), (10, (.s (List.map cU8 x8.1))), (11, (vi x8.2))]) (H' := [(1, .box [(.s (List.map c_api_Page x3.1.Synced)), (.s (List.map c_api_Page x3.1.Loose)), (vb x3.1.Down)]), (6, .box [(.s (List.map c_api_Page x5.Synced)), (.s (List.map c_api_Page x5.Loose)), (vb x5.Down)]), (9, .box [(.s (List.map c_api_Page x7.Synced)), (.s (List.map c_api_Page x7.Loose)), (vb x7.Down)])]) ⟨Le.refl _, Le.refl _, Le.refl _, Le.refl _, Le.refl _, Le.refl _, Le.refl _, Le.refl _, Le.refl _, Le.refl _, True.intro⟩ ⟨⟨_, rfl, .refl _⟩, ⟨_, rfl, .refl _⟩, ⟨_, rfl, .refl _⟩, True.intro⟩ rfl) ?_
  refine Ok.seq ?_
  refine Ok.region Try.tok ?_
  obtain ⟨x9, hx9, h⟩ := bindS h
  refine ⟨_, rfl, ?_⟩
  refine CallOk.call (w_disk_Rot hx9) (LeL.refl _) ?_
  obtain ⟨x10, hx10, h⟩ := bindS h
  refine CallOk.call (w_disk_Read hx10) (LeL.refl _) ?_
  refine Ok.wk (Wk.tab (L := [(1, (.b 1 0)), (2, (vi x2.2)), (3, (vi x3.2)), (4, (.s (List.map cU8 x4.1))), (5, (vi x4.2)), (6, (.b 6 0)), (8, (vi x6.2)), (9, (.b 9 0)), (10, (.s (List.map cU8 x8.1))), (11, (vi x8.2)), (12, (.s (List.map cU8 x10.1))), (13, (vi x10.2))]) (H' := [(1, .box [(.s (List.map c_api_Page x3.1.Synced)), (.s (List.map c_api_Page x3.1.Loose)), (vb x3.1.Down)]), (6, .box [(.s (List.map c_api_Page x5.Synced)), (.s (List.map c_api_Page x5.Loose)), (vb x5.Down)]), (9, .box [(.s (List.map c_api_Page x7.Synced)), (.s (List.map c_api_Page x7.Loose)), (vb x7.Down)])]) ⟨Le.refl _, Le.refl _, Le.refl _, Le.refl _, Le.refl _, Le.refl _, Le.refl _, Le.refl _, Le.refl _, Le.refl _, Le.refl _, Le.refl _, True.intro⟩ ⟨⟨_, rfl, .refl _⟩, ⟨_, rfl, .refl _⟩, ⟨_, rfl, .refl _⟩, True.intro⟩ rfl) ?_
  refine Ok.seq ?_
  refine Ok.region Try.tok ?_
  obtain ⟨x11, hx11, h⟩ := bindS h
  refine ⟨_, rfl, ?_⟩
  refine CallOk.call (w_disk_Read hx11) (LeL.refl _) ?_
  refine Ok.wk (Wk.tab (L := [(1, (.b 1 0)), (2, (vi x2.2)), (3, (vi x3.2)), (4, (.s (List.map cU8 x4.1))), (5, (vi x4.2)), (6, (.b 6 0)), (8, (vi x6.2)), (9, (.b 9 0)), (10, (.s (List.map cU8 x8.1))), (11, (vi x8.2)), (12, (.s (List.map cU8 x10.1))), (13, (vi x10.2)), (15, (vi x11.2))]) (H' := [(1, .box [(.s (List.map c_api_Page x3.1.Synced)), (.s (List.map c_api_Page x3.1.Loose)), (vb x3.1.Down)]), (6, .box [(.s (List.map c_api_Page x5.Synced)), (.s (List.map c_api_Page x5.Loose)), (vb x5.Down)]), (9, .box [(.s (List.map c_api_Page x7.Synced)), (.s (List.map c_api_Page x7.Loose)), (vb x7.Down)])]) ⟨Le.refl _, Le.refl _, Le.refl _, Le.refl _, Le.refl _, Le.refl _, Le.refl _, Le.refl _, Le.refl _, Le.refl _, Le.refl _, Le.refl _, Le.refl _, True.intro⟩ ⟨⟨_, rfl, .refl _⟩, ⟨_, rfl, .refl _⟩, ⟨_, rfl, .refl _⟩, True.intro⟩ rfl) ?_
  refine Ok.seq ?_
  refine Ok.region Try.tok ?_
  obtain ⟨x12, hx12, h⟩ := bindS h
  refine ⟨_, rfl, ?_⟩
  refine CallOk.call (w_disk_Write hx12) (.cons (Le.refl _) (.cons (Le.refl _) (.cons (Le.nil) (.nil)))) ?_
  refine ⟨_, rfl, ?_⟩
  refine Ok.wk (Wk.tab (L := [(1, (.b 1 0)), (2, (vi x2.2)), (3, (vi x3.2)), (4, (.s (List.map cU8 x4.1))), (5, (vi x4.2)), (6, (.b 6 0)), (8, (vi x6.2)), (10, (.s (List.map cU8 x8.1))), (11, (vi x8.2)), (12, (.s (List.map cU8 x10.1))), (13, (vi x10.2)), (15, (vi x11.2)), (17, (vi x12.2))]) (H' := [(1, .box [(.s (List.map c_api_Page x3.1.Synced)), (.s (List.map c_api_Page x3.1.Loose)), (vb x3.1.Down)]), (6, .box [(.s (List.map c_api_Page x5.Synced)), (.s (List.map c_api_Page x5.Loose)), (vb x5.Down)])]) ⟨Le.refl _, Le.refl _, Le.refl _, Le.refl _, Le.refl _, Le.refl _, Le.refl _, Le.refl _, Le.refl _, Le.refl _, Le.refl _, Le.refl _, Le.refl _, True.intro⟩ ⟨⟨_, rfl, .refl _⟩, ⟨_, rfl, .refl _⟩, True.intro⟩ rfl) ?_
  refine Ok.seq ?_
  refine Ok.region Try.tok ?_
  obtain ⟨x13, hx13, h⟩ := bindS h
  refine ⟨_, rfl, ?_⟩
  refine CallOk.call (w_disk_Sync hx13) (LeL.refl _) ?_
  refine ⟨_, rfl, ?_⟩
  refine Ok.wk (Wk.tab (L := [(2, (vi x2.2)), (3, (vi x3.2)), (4, (.s (List.map cU8 x4.1))), (5, (vi x4.2)), (6, (.b 6 0)), (8, (vi x6.2)), (10, (.s (List.map cU8 x8.1))), (11, (vi x8.2)), (12, (.s (List.map cU8 x10.1))), (13, (vi x10.2)), (15, (vi x11.2)), (17, (vi x12.2)), (18, (.b 18 0)), (19, (vi x13.2))]) (H' := [(6, .box [(.s (List.map c_api_Page x5.Synced)), (.s (List.map c_api_Page x5.Loose)), (vb x5.Down)]), (18, .box [(.s (List.map c_api_Page x13.1.Synced)), (.s (List.map c_api_Page x13.1.Loose)), (vb x13.1.Down)])]) ⟨Le.refl _, Le.refl _, Le.refl _, Le.refl _, Le.refl _, Le.refl _, Le.refl _, Le.refl _, Le.refl _, Le.refl _, Le.refl _, Le.refl _, Le.refl _, Le.refl _, True.intro⟩ ⟨⟨_, rfl, .refl _⟩, ⟨_, rfl, .refl _⟩, True.intro⟩ rfl) ?_
  refine Ok.seq ?_
  refine Ok.region Try.tok ?_
  obtain ⟨x14, hx14, h⟩ := bindS h
  refine ⟨_, rfl, ?_⟩
  refine CallOk.call (w_disk_Crash hx14) (LeL.refl _) ?_
  obtain ⟨x15, hx15, h⟩ := bindS h
  refine CallOk.call (w_disk_Up hx15) (LeL.refl _) ?_
  obtain ⟨x16, hx16, h⟩ := bindS h
  refine CallOk.call (w_disk_Read hx16) (LeL.refl _) ?_
  refine Ok.wk (Wk.tab (L := [(2, (vi x2.2)), (3, (vi x3.2)), (4, (.s (List.map cU8 x4.1))), (5, (vi x4.2)), (6, (.b 6 0)), (8, (vi x6.2)), (10, (.s (List.map cU8 x8.1))), (11, (vi x8.2)), (12, (.s (List.map cU8 x10.1))), (13, (vi x10.2)), (15, (vi x11.2)), (17, (vi x12.2)), (19, (vi x13.2)), (20, (.s (List.map cU8 x16.1))), (21, (vi x16.2))]) (H' := [(6, .box [(.s (List.map c_api_Page x5.Synced)), (.s (List.map c_api_Page x5.Loose)), (vb x5.Down)])]) ⟨Le.refl _, Le.refl _, Le.refl _, Le.refl _, Le.refl _, Le.refl _, Le.refl _, Le.refl _, Le.refl _, Le.refl _, Le.refl _, Le.refl _, Le.refl _, Le.refl _, Le.refl _, True.intro⟩ ⟨⟨_, rfl, .refl _⟩, True.intro⟩ rfl) ?_
  refine Ok.seq ?_
  refine Ok.region Try.tok ?_
  obtain ⟨x17, hx17, h⟩ := bindS h
  refine Or.inl ?_
  refine CallOk.call (w_ref04_Bytes hx17) (LeL.refl _) ?_
  refine Ok.wk (Wk.tab (L := [(2, (vi x2.2)), (3, (vi x3.2)), (5, (vi x4.2)), (6, (.b 6 0)), (8, (vi x6.2)), (10, (.s (List.map cU8 x8.1))), (11, (vi x8.2)), (12, (.s (List.map cU8 x10.1))), (13, (vi x10.2)), (15, (vi x11.2)), (17, (vi x12.2)), (19, (vi x13.2)), (20, (.s (List.map cU8 x16.1))), (21, (vi x16.2)), (22, (vb x17))]) (H' := [(6, .box [(.s (List.map c_api_Page x5.Synced)), (.s (List.map c_api_Page x5.Loose)), (vb x5.Down)])]) ⟨Le.refl _, Le.refl _, Le.refl _, Le.refl _, Le.refl _, Le.refl _, Le.refl _, Le.refl _, Le.refl _, Le.refl _, Le.refl _, Le.refl _, Le.refl _, Le.refl _, Le.refl _, True.intro⟩ ⟨⟨_, rfl, .refl _⟩, True.intro⟩ rfl) ?_
  refine Ok.seq ?_
  refine Ok.region Try.tok ?_
  obtain ⟨x18, hx18, h⟩ := bindS h
  refine Or.inl ?_
  refine CallOk.call (w_ref04_Bytes hx18) (LeL.refl _) ?_
  refine Ok.wk (Wk.tab (L := [(2, (vi x2.2)), (3, (vi x3.2)), (5, (vi x4.2)), (6, (.b 6 0)), (8, (vi x6.2)), (11, (vi x8.2)), (12, (.s (List.map cU8 x10.1))), (13, (vi x10.2)), (15, (vi x11.2)), (17, (vi x12.2)), (19, (vi x13.2)), (20, (.s (List.map cU8 x16.1))), (21, (vi x16.2)), (22, (vb x17)), (23, (vb x18))]) (H' := [(6, .box [(.s (List.map c_api_Page x5.Synced)), (.s (List.map c_api_Page x5.Loose)), (vb x5.Down)])]) ⟨Le.refl _, Le.refl _, Le.refl _, Le.refl _, Le.refl _, Le.refl _, Le.refl _, Le.refl _, Le.refl _, Le.refl _, Le.refl _, Le.refl _, Le.refl _, Le.refl _, Le.refl _, True.intro⟩ ⟨⟨_, rfl, .refl _⟩, True.intro⟩ rfl) ?_
  refine Ok.seq ?_
  refine Ok.region Try.tok ?_
  obtain ⟨x19, hx19, h⟩ := bindS h
  refine Or.inl ?_
  refine CallOk.call (w_ref04_Bytes hx19) (LeL.refl _) ?_
  refine Ok.wk (Wk.tab (L := [(2, (vi x2.2)), (3, (vi x3.2)), (5, (vi x4.2)), (6, (.b 6 0)), (8, (vi x6.2)), (11, (vi x8.2)), (13, (vi x10.2)), (15, (vi x11.2)), (17, (vi x12.2)), (19, (vi x13.2)), (20, (.s (List.map cU8 x16.1))), (21, (vi x16.2)), (22, (vb x17)), (23, (vb x18)), (24, (vb x19))]) (H' := [(6, .box [(.s (List.map c_api_Page x5.Synced)), (.s (List.map c_api_Page x5.Loose)), (vb x5.Down)])]) ⟨Le.refl _, Le.refl _, Le.refl _, Le.refl _, Le.refl _, Le.refl _, Le.refl _, Le.refl _, Le.refl _, Le.refl _, Le.refl _, Le.refl _, Le.refl _, Le.refl _, Le.refl _, True.intro⟩ ⟨⟨_, rfl, .refl _⟩, True.intro⟩ rfl) ?_
  refine Ok.seq ?_
  refine Ok.region Try.tok ?_
  obtain ⟨x20, hx20, h⟩ := bindS h
  refine Or.inl ?_
  refine CallOk.call (w_ref04_Bytes hx20) (LeL.refl _) ?_
  refine Ok.wk (Wk.tab (L := [(2, (vi x2.2)), (3, (vi x3.2)), (5, (vi x4.2)), (6, (.b 6 0)), (8, (vi x6.2)), (11, (vi x8.2)), (13, (vi x10.2)), (15, (vi x11.2)), (17, (vi x12.2)), (19, (vi x13.2)), (21, (vi x16.2)), (22, (vb x17)), (23, (vb x18)), (24, (vb x19)), (25, (vb x20))]) (H' := [(6, .box [(.s (List.map c_api_Page x5.Synced)), (.s (List.map c_api_Page x5.Loose)), (vb x5.Down)])]) ⟨Le.refl _, Le.refl _, Le.refl _, Le.refl _, Le.refl _, Le.refl _, Le.refl _, Le.refl _, Le.refl _, Le.refl _, Le.refl _, Le.refl _, Le.refl _, Le.refl _, Le.refl _, True.intro⟩ ⟨⟨_, rfl, .refl _⟩, True.intro⟩ rfl) ?_
  obtain ⟨v1, hv1, h⟩ := bindS h
  refine Ok.seqw ⟨Cat.tab [(0, (vb v1))], []⟩ ?_ ?_
  · refine Ok.region Try.tok ?_
    obtain ⟨c1, hg1, hv1⟩ := bindS hv1
    refine Br.ite hg1 (fun hb hg1 => ?_) fun hb hg1 => ?_
    · cases hg1
      obtain ⟨c2, hg2, hv1⟩ := bindS hv1
      refine Br.ite hg2 (fun hb hg2 => ?_) fun hb hg2 => ?_
      · cases hg2
        obtain ⟨c3, hg3, hv1⟩ := bindS hv1
        refine Br.ite hg3 (fun hb hg3 => ?_) fun hb hg3 => ?_
        · cases hg3
          obtain ⟨c4, hg4, hv1⟩ := bindS hv1
          refine Br.ite hg4 (fun hb hg4 => ?_) fun hb hg4 => ?_
          · cases hg4
            obtain ⟨c5, hg5, hv1⟩ := bindS hv1
            refine Br.ite hg5 (fun hb hg5 => ?_) fun hb hg5 => ?_
            · cases hg5
              obtain ⟨c6, hg6, hv1⟩ := bindS hv1
              refine Br.ite hg6 (fun hb hg6 => ?_) fun hb hg6 => ?_
              · cases hg6
                obtain ⟨c7, hg7, hv1⟩ := bindS hv1
                refine Br.ite hg7 (fun hb hg7 => ?_) fun hb hg7 => ?_
                · cases hg7
                  obtain ⟨c8, hg8, hv1⟩ := bindS hv1
                  refine Br.ite hg8 (fun hb hg8 => ?_) fun hb hg8 => ?_
                  · cases hg8
                    obtain ⟨c9, hg9, hv1⟩ := bindS hv1
                    refine Br.ite hg9 (fun hb hg9 => ?_) fun hb hg9 => ?_
                    · cases hg9
                      obtain ⟨c10, hg10, hv1⟩ := bindS hv1
                      refine Br.ite hg10 (fun hb hg10 => ?_) fun hb hg10 => ?_
                      · cases hg10
                        obtain ⟨c11, hg11, hv1⟩ := bindS hv1
                        refine Br.ite hg11 (fun hb hg11 => ?_) fun hb hg11 => ?_
                        · cases hg11
                          obtain ⟨c12, hg12, hv1⟩ := bindS hv1
                          refine Br.ite hg12 (fun hb hg12 => ?_) fun hb hg12 => ?_
                          · cases hg12
                            obtain ⟨c13, hg13, hv1⟩ := bindS hv1
                            refine Br.ite hg13 (fun hb hg13 => ?_) fun hb hg13 => ?_
                            · cases hg13
                              obtain ⟨c14, hg14, hv1⟩ := bindS hv1
                              refine Br.ite hg14 (fun hb hg14 => ?_) fun hb hg14 => ?_
                              · obtain ⟨x21, hx21, hg14⟩ := bindS hg14
                                refine ⟨_, rfl, ?_⟩
                                refine CallOk.call (w_disk_Right hx21) (LeL.refl _) ?_
                                cases hg14
                                obtain ⟨c15, hg15, hv1⟩ := bindS hv1
                                refine Br.ite hg15 (fun hb hg15 => ?_) fun hb hg15 => ?_
                                · obtain ⟨x22, hx22, hg15⟩ := bindS hg15
                                  refine Or.inl ?_
                                  refine CallOk.call (w_disk_Right hx22) (.cons (Le.a (.cons (Le.nil) (.cons (Le.snz rfl) (.cons (Le.refl _) (.nil))))) (.nil)) ?_
                                  cases hg15
                                  cases hv1
                                  exact Wk.tab ⟨Le.refl _, True.intro⟩ True.intro rfl
                                · cases hg15
                                  cases hv1
                                  exact Wk.tab ⟨Le.refl _, True.intro⟩ True.intro rfl
                              · cases hg14
                                obtain ⟨c15, hg16, hv1⟩ := bindS hv1
                                replace hg16 := iteF hg16
                                cases hg16
                                cases hv1
                                exact Wk.tab ⟨Le.refl _, True.intro⟩ True.intro rfl
                            · cases hg13
                              obtain ⟨c14, hg17, hv1⟩ := bindS hv1
                              replace hg17 := iteF hg17
                              cases hg17
                              obtain ⟨c15, hg18, hv1⟩ := bindS hv1
                              replace hg18 := iteF hg18
                              cases hg18
                              cases hv1
                              exact Wk.tab ⟨Le.refl _, True.intro⟩ True.intro rfl
                          · cases hg12
                            obtain ⟨c13, hg19, hv1⟩ := bindS hv1
                            replace hg19 := iteF hg19
                            cases hg19
                            obtain ⟨c14, hg20, hv1⟩ := bindS hv1
                            replace hg20 := iteF hg20
                            cases hg20
                            obtain ⟨c15, hg21, hv1⟩ := bindS hv1
                            replace hg21 := iteF hg21
                            cases hg21
                            cases hv1
                            exact Wk.tab ⟨Le.refl _, True.intro⟩ True.intro rfl
                        · cases hg11
                          obtain ⟨c12, hg22, hv1⟩ := bindS hv1
                          replace hg22 := iteF hg22
                          cases hg22
                          obtain ⟨c13, hg23, hv1⟩ := bindS hv1
                          replace hg23 := iteF hg23
                          cases hg23
                          obtain ⟨c14, hg24, hv1⟩ := bindS hv1
                          replace hg24 := iteF hg24
                          cases hg24
                          obtain ⟨c15, hg25, hv1⟩ := bindS hv1
                          replace hg25 := iteF hg25
                          cases hg25
                          cases hv1
                          exact Wk.tab ⟨Le.refl _, True.intro⟩ True.intro rfl
                      · cases hg10
                        obtain ⟨c11, hg26, hv1⟩ := bindS hv1
                        replace hg26 := iteF hg26
                        cases hg26
                        obtain ⟨c12, hg27, hv1⟩ := bindS hv1
                        replace hg27 := iteF hg27
                        cases hg27
                        obtain ⟨c13, hg28, hv1⟩ := bindS hv1
                        replace hg28 := iteF hg28
                        cases hg28
                        obtain ⟨c14, hg29, hv1⟩ := bindS hv1
                        replace hg29 := iteF hg29
                        cases hg29
                        obtain ⟨c15, hg30, hv1⟩ := bindS hv1
                        replace hg30 := iteF hg30
                        cases hg30
                        cases hv1
                        exact Wk.tab ⟨Le.refl _, True.intro⟩ True.intro rfl
                    · cases hg9
                      obtain ⟨c10, hg31, hv1⟩ := bindS hv1
                      replace hg31 := iteF hg31
                      cases hg31
                      obtain ⟨c11, hg32, hv1⟩ := bindS hv1
                      replace hg32 := iteF hg32
                      cases hg32
                      obtain ⟨c12, hg33, hv1⟩ := bindS hv1
                      replace hg33 := iteF hg33
                      cases hg33
                      obtain ⟨c13, hg34, hv1⟩ := bindS hv1
                      replace hg34 := iteF hg34
                      cases hg34
                      obtain ⟨c14, hg35, hv1⟩ := bindS hv1
                      replace hg35 := iteF hg35
                      cases hg35
                      obtain ⟨c15, hg36, hv1⟩ := bindS hv1
                      replace hg36 := iteF hg36
                      cases hg36
                      cases hv1
                      exact Wk.tab ⟨Le.refl _, True.intro⟩ True.intro rfl
                  · cases hg8
                    obtain ⟨c9, hg37, hv1⟩ := bindS hv1
                    replace hg37 := iteF hg37
                    cases hg37
                    obtain ⟨c10, hg38, hv1⟩ := bindS hv1
                    replace hg38 := iteF hg38
                    cases hg38
                    obtain ⟨c11, hg39, hv1⟩ := bindS hv1
                    replace hg39 := iteF hg39
                    cases hg39
                    obtain ⟨c12, hg40, hv1⟩ := bindS hv1
                    replace hg40 := iteF hg40
                    cases hg40
                    obtain ⟨c13, hg41, hv1⟩ := bindS hv1
                    replace hg41 := iteF hg41
                    cases hg41
                    obtain ⟨c14, hg42, hv1⟩ := bindS hv1
                    replace hg42 := iteF hg42
                    cases hg42
                    obtain ⟨c15, hg43, hv1⟩ := bindS hv1
                    replace hg43 := iteF hg43
                    cases hg43
                    cases hv1
                    exact Wk.tab ⟨Le.refl _, True.intro⟩ True.intro rfl
                · cases hg7
                  obtain ⟨c8, hg44, hv1⟩ := bindS hv1
                  replace hg44 := iteF hg44
                  cases hg44
                  obtain ⟨c9, hg45, hv1⟩ := bindS hv1
                  replace hg45 := iteF hg45
                  cases hg45
                  obtain ⟨c10, hg46, hv1⟩ := bindS hv1
                  replace hg46 := iteF hg46
                  cases hg46
                  obtain ⟨c11, hg47, hv1⟩ := bindS hv1
                  replace hg47 := iteF hg47
                  cases hg47
                  obtain ⟨c12, hg48, hv1⟩ := bindS hv1
                  replace hg48 := iteF hg48
                  cases hg48
                  obtain ⟨c13, hg49, hv1⟩ := bindS hv1
                  replace hg49 := iteF hg49
                  cases hg49
                  obtain ⟨c14, hg50, hv1⟩ := bindS hv1
                  replace hg50 := iteF hg50
                  cases hg50
                  obtain ⟨c15, hg51, hv1⟩ := bindS hv1
                  replace hg51 := iteF hg51
                  cases hg51
                  cases hv1
                  exact Wk.tab ⟨Le.refl _, True.intro⟩ True.intro rfl
              · cases hg6
                obtain ⟨c7, hg52, hv1⟩ := bindS hv1
                replace hg52 := iteF hg52
                cases hg52
                obtain ⟨c8, hg53, hv1⟩ := bindS hv1
                replace hg53 := iteF hg53
                cases hg53
                obtain ⟨c9, hg54, hv1⟩ := bindS hv1
                replace hg54 := iteF hg54
                cases hg54
                obtain ⟨c10, hg55, hv1⟩ := bindS hv1
                replace hg55 := iteF hg55
                cases hg55
                obtain ⟨c11, hg56, hv1⟩ := bindS hv1
                replace hg56 := iteF hg56
                cases hg56
                obtain ⟨c12, hg57, hv1⟩ := bindS hv1
                replace hg57 := iteF hg57
                cases hg57
                obtain ⟨c13, hg58, hv1⟩ := bindS hv1
                replace hg58 := iteF hg58
                cases hg58
                obtain ⟨c14, hg59, hv1⟩ := bindS hv1
                replace hg59 := iteF hg59
                cases hg59
                obtain ⟨c15, hg60, hv1⟩ := bindS hv1
                replace hg60 := iteF hg60
                cases hg60
                cases hv1
                exact Wk.tab ⟨Le.refl _, True.intro⟩ True.intro rfl
            · cases hg5
              obtain ⟨c6, hg61, hv1⟩ := bindS hv1
              replace hg61 := iteF hg61
              cases hg61
              obtain ⟨c7, hg62, hv1⟩ := bindS hv1
              replace hg62 := iteF hg62
              cases hg62
              obtain ⟨c8, hg63, hv1⟩ := bindS hv1
              replace hg63 := iteF hg63
              cases hg63
              obtain ⟨c9, hg64, hv1⟩ := bindS hv1
              replace hg64 := iteF hg64
              cases hg64
              obtain ⟨c10, hg65, hv1⟩ := bindS hv1
              replace hg65 := iteF hg65
              cases hg65
              obtain ⟨c11, hg66, hv1⟩ := bindS hv1
              replace hg66 := iteF hg66
              cases hg66
              obtain ⟨c12, hg67, hv1⟩ := bindS hv1
              replace hg67 := iteF hg67
              cases hg67
              obtain ⟨c13, hg68, hv1⟩ := bindS hv1
              replace hg68 := iteF hg68
              cases hg68
              obtain ⟨c14, hg69, hv1⟩ := bindS hv1
              replace hg69 := iteF hg69
              cases hg69
              obtain ⟨c15, hg70, hv1⟩ := bindS hv1
              replace hg70 := iteF hg70
              cases hg70
              cases hv1
              exact Wk.tab ⟨Le.refl _, True.intro⟩ True.intro rfl
          · cases hg4
            obtain ⟨c5, hg71, hv1⟩ := bindS hv1
            replace hg71 := iteF hg71
            cases hg71
            obtain ⟨c6, hg72, hv1⟩ := bindS hv1
            replace hg72 := iteF hg72
            cases hg72
            obtain ⟨c7, hg73, hv1⟩ := bindS hv1
            replace hg73 := iteF hg73
            cases hg73
            obtain ⟨c8, hg74, hv1⟩ := bindS hv1
            replace hg74 := iteF hg74
            cases hg74
            obtain ⟨c9, hg75, hv1⟩ := bindS hv1
            replace hg75 := iteF hg75
            cases hg75
            obtain ⟨c10, hg76, hv1⟩ := bindS hv1
            replace hg76 := iteF hg76
            cases hg76
            obtain ⟨c11, hg77, hv1⟩ := bindS hv1
            replace hg77 := iteF hg77
            cases hg77
            obtain ⟨c12, hg78, hv1⟩ := bindS hv1
            replace hg78 := iteF hg78
            cases hg78
            obtain ⟨c13, hg79, hv1⟩ := bindS hv1
            replace hg79 := iteF hg79
            cases hg79
            obtain ⟨c14, hg80, hv1⟩ := bindS hv1
            replace hg80 := iteF hg80
            cases hg80
            obtain ⟨c15, hg81, hv1⟩ := bindS hv1
            replace hg81 := iteF hg81
            cases hg81
            cases hv1
            exact Wk.tab ⟨Le.refl _, True.intro⟩ True.intro rfl
        · cases hg3
          obtain ⟨c4, hg82, hv1⟩ := bindS hv1
          replace hg82 := iteF hg82
          cases hg82
          obtain ⟨c5, hg83, hv1⟩ := bindS hv1
          replace hg83 := iteF hg83
          cases hg83
          obtain ⟨c6, hg84, hv1⟩ := bindS hv1
          replace hg84 := iteF hg84
          cases hg84
          obtain ⟨c7, hg85, hv1⟩ := bindS hv1
          replace hg85 := iteF hg85
          cases hg85
          obtain ⟨c8, hg86, hv1⟩ := bindS hv1
          replace hg86 := iteF hg86
          cases hg86
          obtain ⟨c9, hg87, hv1⟩ := bindS hv1
          replace hg87 := iteF hg87
          cases hg87
          obtain ⟨c10, hg88, hv1⟩ := bindS hv1
          replace hg88 := iteF hg88
          cases hg88
          obtain ⟨c11, hg89, hv1⟩ := bindS hv1
          replace hg89 := iteF hg89
          cases hg89
          obtain ⟨c12, hg90, hv1⟩ := bindS hv1
          replace hg90 := iteF hg90
          cases hg90
          obtain ⟨c13, hg91, hv1⟩ := bindS hv1
          replace hg91 := iteF hg91
          cases hg91
          obtain ⟨c14, hg92, hv1⟩ := bindS hv1
          replace hg92 := iteF hg92
          cases hg92
          obtain ⟨c15, hg93, hv1⟩ := bindS hv1
          replace hg93 := iteF hg93
          cases hg93
          cases hv1
          exact Wk.tab ⟨Le.refl _, True.intro⟩ True.intro rfl
      · cases hg2
        obtain ⟨c3, hg94, hv1⟩ := bindS hv1
        replace hg94 := iteF hg94
        cases hg94
        obtain ⟨c4, hg95, hv1⟩ := bindS hv1
        replace hg95 := iteF hg95
        cases hg95
        obtain ⟨c5, hg96, hv1⟩ := bindS hv1
        replace hg96 := iteF hg96
        cases hg96
        obtain ⟨c6, hg97, hv1⟩ := bindS hv1
        replace hg97 := iteF hg97
        cases hg97
        obtain ⟨c7, hg98, hv1⟩ := bindS hv1
        replace hg98 := iteF hg98
        cases hg98
        obtain ⟨c8, hg99, hv1⟩ := bindS hv1
        replace hg99 := iteF hg99
        cases hg99
        obtain ⟨c9, hg100, hv1⟩ := bindS hv1
        replace hg100 := iteF hg100
        cases hg100
        obtain ⟨c10, hg101, hv1⟩ := bindS hv1
        replace hg101 := iteF hg101
        cases hg101
        obtain ⟨c11, hg102, hv1⟩ := bindS hv1
        replace hg102 := iteF hg102
        cases hg102
        obtain ⟨c12, hg103, hv1⟩ := bindS hv1
        replace hg103 := iteF hg103
        cases hg103
        obtain ⟨c13, hg104, hv1⟩ := bindS hv1
        replace hg104 := iteF hg104
        cases hg104
        obtain ⟨c14, hg105, hv1⟩ := bindS hv1
        replace hg105 := iteF hg105
        cases hg105
        obtain ⟨c15, hg106, hv1⟩ := bindS hv1
        replace hg106 := iteF hg106
        cases hg106
        cases hv1
        exact Wk.tab ⟨Le.refl _, True.intro⟩ True.intro rfl
    · cases hg1
      obtain ⟨c2, hg107, hv1⟩ := bindS hv1
      replace hg107 := iteF hg107
      cases hg107
      obtain ⟨c3, hg108, hv1⟩ := bindS hv1
      replace hg108 := iteF hg108
      cases hg108
      obtain ⟨c4, hg109, hv1⟩ := bindS hv1
      replace hg109 := iteF hg109
      cases hg109
      obtain ⟨c5, hg110, hv1⟩ := bindS hv1
      replace hg110 := iteF hg110
      cases hg110
      obtain ⟨c6, hg111, hv1⟩ := bindS hv1
      replace hg111 := iteF hg111
      cases hg111
      obtain ⟨c7, hg112, hv1⟩ := bindS hv1
      replace hg112 := iteF hg112
      cases hg112
      obtain ⟨c8, hg113, hv1⟩ := bindS hv1
      replace hg113 := iteF hg113
      cases hg113
      obtain ⟨c9, hg114, hv1⟩ := bindS hv1
      replace hg114 := iteF hg114
      cases hg114
      obtain ⟨c10, hg115, hv1⟩ := bindS hv1
      replace hg115 := iteF hg115
      cases hg115
      obtain ⟨c11, hg116, hv1⟩ := bindS hv1
      replace hg116 := iteF hg116
      cases hg116
      obtain ⟨c12, hg117, hv1⟩ := bindS hv1
      replace hg117 := iteF hg117
      cases hg117
      obtain ⟨c13, hg118, hv1⟩ := bindS hv1
      replace hg118 := iteF hg118
      cases hg118
      obtain ⟨c14, hg119, hv1⟩ := bindS hv1
      replace hg119 := iteF hg119
      cases hg119
      obtain ⟨c15, hg120, hv1⟩ := bindS hv1
      replace hg120 := iteF hg120
      cases hg120
      cases hv1
      exact Wk.tab ⟨Le.refl _, True.intro⟩ True.intro rfl
  refine Ok.ret ?_
  cases h
  exact Fz.v

theorem w_ref04_Page {p_p : api_Page} {r : Bool} (h : ref04_Page p_p = some r) : Pure Try.prog 42 [(.a [(vi p_p.At), (.s (List.map cU8 p_p.Data))])] (vb r) := by
  refine pure_of_ok (n := 17) (c := (Try.f42.body.getD .skip)) Try.tok Try.func42 (by kernel_rfl) rfl rfl (Nat.le_of_ble_eq_true rfl) ?_
  unfold ref04_Page at h
  refine Ok.wk (Wk.tab (L := [(0, (.a [(vi p_p.At), (.s (List.map cU8 p_p.Data))]))]) (H' := []) ⟨Le.refl _, True.intro⟩ True.intro rfl) ?_
  refine Ok.seq ?_
  refine Ok.region Try.tok ?_
  refine Ok.wk (Wk.tab (L := [(1, (.b 1 0))]) (H' := [(1, .box [(vi p_p.At), (.s (List.map cU8 p_p.Data))])]) ⟨Le.refl _, True.intro⟩ ⟨⟨_, rfl, .refl _⟩, True.intro⟩ rfl) ?_
  obtain ⟨v1, hv1, h⟩ := bindS h
  refine Ok.seqw ⟨Cat.tab [(2, (vb v1))], []⟩ ?_ ?_
  · refine Ok.region Try.tok ?_
    refine ⟨_, rfl, ?_⟩
    obtain ⟨c1, hg1, hv1⟩ := bindS hv1
    refine Br.ite hg1 (fun hb hg1 => ?_) fun hb hg1 => ?_
    · refine ⟨_, rfl, ?_⟩
      cases hg1
      obtain ⟨c2, hg2, hv1⟩ := bindS hv1
      refine Br.ite hg2 (fun hb hg2 => ?_) fun hb hg2 => ?_
      · refine ⟨_, rfl, ⟨_, List.length_map _, fun _ => ?_⟩⟩
        cases hg2
        cases hv1
        exact Wk.tab ⟨Le.refl _, True.intro⟩ True.intro rfl
      · cases hg2
        cases hv1
        exact Wk.tab ⟨Le.refl _, True.intro⟩ True.intro rfl
    · cases hg1
      obtain ⟨c2, hg3, hv1⟩ := bindS hv1
      replace hg3 := iteF hg3
      cases hg3
      cases hv1
      exact Wk.tab ⟨Le.refl _, True.intro⟩ True.intro rfl
  refine Ok.ret ?_
  cases h
  exact Fz.v

theorem w_ref04_Right {p_d : api_Disk} {r : Bool} (h : ref04_Right p_d = some r) : Pure Try.prog 28 [(.a [(.s (List.map c_api_Page p_d.Synced)), (.s (List.map c_api_Page p_d.Loose)), (vb p_d.Down)])] (vb r) := by
  refine pure_of_ok (n := 66) (c := (Try.f28.body.getD .skip)) Try.tok Try.func28 (by kernel_rfl) rfl rfl (Nat.le_of_ble_eq_true rfl) ?_
  unfold ref04_Right at h
  refine Ok.wk (Wk.tab (L := [(0, (.a [(.s (List.map c_api_Page p_d.Synced)), (.s (List.map c_api_Page p_d.Loose)), (vb p_d.Down)]))]) (H' := []) ⟨Le.refl _, True.intro⟩ True.intro rfl) ?_
  refine Ok.seq ?_
  refine Ok.region Try.tok ?_
  refine Ok.wk (Wk.tab (L := [(1, (.b 1 0))]) (H' := [(1, .box [(.s (List.map c_api_Page p_d.Synced)), (.s (List.map c_api_Page p_d.Loose)), (vb p_d.Down)])]) ⟨Le.refl _, True.intro⟩ ⟨⟨_, rfl, .refl _⟩, True.intro⟩ rfl) ?_
  refine Ok.seqj (fun v1 => ⟨Cat.tab [(1, (.b 1 0))], [(1, .box [(.s (List.map c_api_Page p_d.Synced)), (.s (List.map c_api_Page p_d.Loose)), (vb p_d.Down)])]⟩) (fun v1 => ref04_Right_J1 p_d v1 = some r) ?_ ?_
  · refine Ok.seq ?_
    refine Ok.region Try.tok ?_
    refine Ok.wk (Wk.tab (L := [(1, (.b 1 0)), (3, (vi (0)))]) (H' := [(1, .box [(.s (List.map c_api_Page p_d.Synced)), (.s (List.map c_api_Page p_d.Loose)), (vb p_d.Down)])]) ⟨Le.refl _, Le.refl _, True.intro⟩ ⟨⟨_, rfl, .refl _⟩, True.intro⟩ rfl) ?_
    refine Ok.block ?_
    refine Ok.loop (fun (s1 : Int) => ⟨Cat.tab [(1, (.b 1 0)), (3, (vi s1))], [(1, .box [(.s (List.map c_api_Page p_d.Synced)), (.s (List.map c_api_Page p_d.Loose)), (vb p_d.Down)])]⟩) (ref04_Right_B1 p_d) (s0 := 0) h (Wk.tab ⟨Le.refl _, Le.refl _, True.intro⟩ ⟨⟨_, rfl, .refl _⟩, True.intro⟩ rfl) ?_
    intro s1 y1 hB1 hy1
    unfold ref04_Right_B1 at hB1
    refine Ok.seq ?_
    refine Ok.seq ?_
    refine Ok.region Try.tok ?_
    refine ⟨_, rfl, ⟨_, List.length_map _, fun _ => ?_⟩⟩
    refine Ok.wk (Wk.tab (L := [(1, (.b 1 0)), (3, (vi s1)), (11, (vb ((decide (s1 < (p_d.Synced.length : Int))))))]) (H' := [(1, .box [(.s (List.map c_api_Page p_d.Synced)), (.s (List.map c_api_Page p_d.Loose)), (vb p_d.Down)])]) ⟨Le.refl _, Le.refl _, Le.refl _, True.intro⟩ ⟨⟨_, rfl, .refl _⟩, True.intro⟩ rfl) ?_
    refine Ok.cond (d := 11) (b := (decide (s1 < (p_d.Synced.length : Int)))) rfl hB1 (fun hb hB1 => ?_) fun hb hB1 => ?_
    · refine Ok.skip ?_
      refine Ok.seq ?_
      refine Ok.block ?_
      refine Ok.seq ?_
      refine Ok.region Try.tok ?_
      obtain ⟨x1, hx1, hB1⟩ := bindS hB1
      obtain ⟨x2, hx2, hB1⟩ := bindS hB1
      refine ⟨_, rfl, ⟨_, idx_nat hx1, _, idx_row hx1, ⟨_, rfl, ?_⟩⟩⟩
      refine CallOk.call (w_ref04_Page hx2) (LeL.refl _) ?_
      refine Ok.wk (Wk.tab (L := [(1, (.b 1 0)), (3, (vi s1)), (4, (vb x2))]) (H' := [(1, .box [(.s (List.map c_api_Page p_d.Synced)), (.s (List.map c_api_Page p_d.Loose)), (vb p_d.Down)])]) ⟨Le.refl _, Le.refl _, Le.refl _, True.intro⟩ ⟨⟨_, rfl, .refl _⟩, True.intro⟩ rfl) ?_
      obtain ⟨v2, hv2, hB1⟩ := bindS hB1
      refine Ok.seqw ⟨Cat.tab [(1, (.b 1 0)), (3, (vi s1)), (41, (vb v2))], [(1, .box [(.s (List.map c_api_Page p_d.Synced)), (.s (List.map c_api_Page p_d.Loose)), (vb p_d.Down)])]⟩ ?_ ?_
      · refine Ok.draw (m := 22) (MD := ⟨[]⟩) (CH := ⟨[]⟩) Try.tok Try.mixed (by kernel_rfl) ?_
        refine ⟨_, rfl, ⟨_, rfl, ⟨_, rfl, ?_⟩⟩⟩
        obtain ⟨c2, hg1, hv2⟩ := bindS hv2
        refine Br.itf hg1 (fun hb hg1 => ?_) fun hb hg1 => ?_
        · cases hg1
          refine ⟨_, rfl, ?_⟩
          refine ⟨True.intro, ?_⟩
          cases hv2
          exact Wk.tab ⟨Le.refl _, Le.refl _, Le.refl _, True.intro⟩ ⟨⟨_, rfl, .refl _⟩, True.intro⟩ rfl
        · refine ⟨_, rfl, ⟨_, rfl, ⟨_, rfl, ?_⟩⟩⟩
          obtain ⟨c1, hg2, hg1⟩ := bindS hg1
          refine Br.ite hg2 (fun hb hg2 => ?_) fun hb hg2 => ?_
          · obtain ⟨x3, hx3, hg2⟩ := bindS hg2
            obtain ⟨hc1, hg2⟩ := chk_some hg2
            obtain ⟨x4, hx4, hg2⟩ := bindS hg2
            refine ⟨_, rfl, ⟨_, ⟨_, rfl, rfl⟩, ⟨_, rfl, ⟨_, ⟨_, idx_nat hx3, _, idx_row hx3, rfl⟩, ⟨_, rfl, ⟨_, ⟨_, rfl, rfl⟩, ⟨_, rfl, ⟨_, ⟨_, rfl, rfl⟩, ⟨_, rfl, ⟨_, (Or.inl ⟨hc1, rfl⟩), ⟨_, ⟨_, idx_nat hx4, _, idx_row hx4, rfl⟩, ⟨_, rfl, ⟨_, ⟨_, rfl, rfl⟩, ⟨_, rfl, ?_⟩⟩⟩⟩⟩⟩⟩⟩⟩⟩⟩⟩⟩⟩
            cases hg2
            refine ⟨_, rfl, ?_⟩
            cases hg1
            refine ⟨_, rfl, ?_⟩
            refine ⟨True.intro, ?_⟩
            cases hv2
            exact Wk.tab ⟨Le.refl _, Le.refl _, Le.refl _, True.intro⟩ ⟨⟨_, rfl, .refl _⟩, True.intro⟩ rfl
          · cases hg2
            refine ⟨_, rfl, ?_⟩
            cases hg1
            refine ⟨_, rfl, ?_⟩
            refine ⟨True.intro, ?_⟩
            cases hv2
            exact Wk.tab ⟨Le.refl _, Le.refl _, Le.refl _, True.intro⟩ ⟨⟨_, rfl, .refl _⟩, True.intro⟩ rfl
      refine Ok.cond (d := 41) (b := v2) rfl hB1 (fun hb hB1 => ?_) fun hb hB1 => ?_
      · refine Ok.seq ?_
        refine Ok.region Try.tok ?_
        refine Ok.wk (Wk.tab (L := [(2, (vb false))]) (H' := []) ⟨Le.refl _, True.intro⟩ True.intro rfl) ?_
        refine Ok.ret ?_
        have hB1 := out_ret hB1 hy1
        cases hB1
        exact Fz.v
      · refine Ok.skip ?_
        refine Ok.region Try.tok ?_
        obtain ⟨hc2, hB1⟩ := chk_some hB1
        refine (Or.inl ⟨hc2, ?_⟩)
        exact ⟨_, (Option.some.inj hB1).symm, Wk.tab ⟨Le.refl _, Le.refl _, True.intro⟩ ⟨⟨_, rfl, .refl _⟩, True.intro⟩ rfl⟩
    · refine Ok.exit ?_
      have hB1 := out_ret hB1 hy1
      exact ⟨_, hB1, Wk.tab ⟨Le.refl _, True.intro⟩ ⟨⟨_, rfl, .refl _⟩, True.intro⟩ rfl⟩
  intro v1 h
  unfold ref04_Right_J1 at h
  refine Ok.seqj (fun v3 => ⟨Cat.tab [(1, (.b 1 0))], [(1, .box [(.s (List.map c_api_Page p_d.Synced)), (.s (List.map c_api_Page p_d.Loose)), (vb p_d.Down)])]⟩) (fun v3 => ref04_Right_J2 p_d v3 = some r) ?_ ?_
  · refine Ok.seq ?_
    refine Ok.region Try.tok ?_
    refine Ok.wk (Wk.tab (L := [(1, (.b 1 0)), (5, (vi (0)))]) (H' := [(1, .box [(.s (List.map c_api_Page p_d.Synced)), (.s (List.map c_api_Page p_d.Loose)), (vb p_d.Down)])]) ⟨Le.refl _, Le.refl _, True.intro⟩ ⟨⟨_, rfl, .refl _⟩, True.intro⟩ rfl) ?_
    refine Ok.block ?_
    refine Ok.loop (fun (s2 : Int) => ⟨Cat.tab [(1, (.b 1 0)), (5, (vi s2))], [(1, .box [(.s (List.map c_api_Page p_d.Synced)), (.s (List.map c_api_Page p_d.Loose)), (vb p_d.Down)])]⟩) (ref04_Right_B2 p_d) (s0 := 0) h (Wk.tab ⟨Le.refl _, Le.refl _, True.intro⟩ ⟨⟨_, rfl, .refl _⟩, True.intro⟩ rfl) ?_
    intro s2 y2 hB2 hy2
    unfold ref04_Right_B2 at hB2
    refine Ok.seq ?_
    refine Ok.seq ?_
    refine Ok.region Try.tok ?_
    refine ⟨_, rfl, ⟨_, List.length_map _, fun _ => ?_⟩⟩
    refine Ok.wk (Wk.tab (L := [(1, (.b 1 0)), (5, (vi s2)), (46, (vb ((decide (s2 < (p_d.Loose.length : Int))))))]) (H' := [(1, .box [(.s (List.map c_api_Page p_d.Synced)), (.s (List.map c_api_Page p_d.Loose)), (vb p_d.Down)])]) ⟨Le.refl _, Le.refl _, Le.refl _, True.intro⟩ ⟨⟨_, rfl, .refl _⟩, True.intro⟩ rfl) ?_
    refine Ok.cond (d := 46) (b := (decide (s2 < (p_d.Loose.length : Int)))) rfl hB2 (fun hb hB2 => ?_) fun hb hB2 => ?_
    · refine Ok.skip ?_
      refine Ok.seq ?_
      refine Ok.block ?_
      refine Ok.seq ?_
      refine Ok.region Try.tok ?_
      obtain ⟨x5, hx5, hB2⟩ := bindS hB2
      obtain ⟨x6, hx6, hB2⟩ := bindS hB2
      refine ⟨_, rfl, ⟨_, idx_nat hx5, _, idx_row hx5, ⟨_, rfl, ?_⟩⟩⟩
      refine CallOk.call (w_ref04_Page hx6) (LeL.refl _) ?_
      refine Ok.wk (Wk.tab (L := [(1, (.b 1 0)), (5, (vi s2)), (6, (vb x6))]) (H' := [(1, .box [(.s (List.map c_api_Page p_d.Synced)), (.s (List.map c_api_Page p_d.Loose)), (vb p_d.Down)])]) ⟨Le.refl _, Le.refl _, Le.refl _, True.intro⟩ ⟨⟨_, rfl, .refl _⟩, True.intro⟩ rfl) ?_
      refine Ok.seq ?_
      refine Ok.region Try.tok ?_
      refine Ok.wk (Wk.tab (L := [(1, (.b 1 0)), (5, (vi s2)), (56, (vb ((!x6))))]) (H' := [(1, .box [(.s (List.map c_api_Page p_d.Synced)), (.s (List.map c_api_Page p_d.Loose)), (vb p_d.Down)])]) ⟨Le.refl _, Le.refl _, Le.refl _, True.intro⟩ ⟨⟨_, rfl, .refl _⟩, True.intro⟩ rfl) ?_
      refine Ok.cond (d := 56) (b := (!x6)) rfl hB2 (fun hb hB2 => ?_) fun hb hB2 => ?_
      · refine Ok.seq ?_
        refine Ok.region Try.tok ?_
        refine Ok.wk (Wk.tab (L := [(2, (vb false))]) (H' := []) ⟨Le.refl _, True.intro⟩ True.intro rfl) ?_
        refine Ok.ret ?_
        have hB2 := out_ret hB2 hy2
        cases hB2
        exact Fz.v
      · refine Ok.skip ?_
        refine Ok.region Try.tok ?_
        obtain ⟨hc3, hB2⟩ := chk_some hB2
        refine (Or.inl ⟨hc3, ?_⟩)
        exact ⟨_, (Option.some.inj hB2).symm, Wk.tab ⟨Le.refl _, Le.refl _, True.intro⟩ ⟨⟨_, rfl, .refl _⟩, True.intro⟩ rfl⟩
    · refine Ok.exit ?_
      have hB2 := out_ret hB2 hy2
      exact ⟨_, hB2, Wk.tab ⟨Le.refl _, True.intro⟩ ⟨⟨_, rfl, .refl _⟩, True.intro⟩ rfl⟩
  intro v3 h
  unfold ref04_Right_J2 at h
  obtain ⟨v4, hv4, h⟩ := bindS h
  refine Ok.seqw ⟨Cat.tab [(2, (vb v4))], []⟩ ?_ ?_
  · refine Ok.region Try.tok ?_
    refine ⟨_, rfl, ?_⟩
    obtain ⟨c3, hg3, hv4⟩ := bindS hv4
    refine Br.itf hg3 (fun hb hg3 => ?_) fun hb hg3 => ?_
    · cases hg3
      cases hv4
      exact Wk.tab ⟨Le.refl _, True.intro⟩ True.intro rfl
    · refine ⟨_, rfl, ⟨_, List.length_map _, fun _ => ?_⟩⟩
      cases hg3
      cases hv4
      exact Wk.tab ⟨Le.refl _, True.intro⟩ True.intro rfl
  refine Ok.ret ?_
  cases h
  exact Fz.v

theorem w_law04_Fits {p_d : api_Disk} {r : Bool} (h : law04_Fits p_d = some r) : Pure Try.prog 11 [(.a [(.s (List.map c_api_Page p_d.Synced)), (.s (List.map c_api_Page p_d.Loose)), (vb p_d.Down)])] (vb r) := by
  refine pure_of_ok (n := 15) (c := (Try.f11.body.getD .skip)) Try.tok Try.func11 (by kernel_rfl) rfl rfl (Nat.le_of_ble_eq_true rfl) ?_
  unfold law04_Fits at h
  refine Ok.wk (Wk.tab (L := [(0, (.a [(.s (List.map c_api_Page p_d.Synced)), (.s (List.map c_api_Page p_d.Loose)), (vb p_d.Down)]))]) (H' := []) ⟨Le.refl _, True.intro⟩ True.intro rfl) ?_
  refine Ok.seq ?_
  refine Ok.region Try.tok ?_
  refine Ok.wk (Wk.tab (L := [(1, (.b 1 0))]) (H' := [(1, .box [(.s (List.map c_api_Page p_d.Synced)), (.s (List.map c_api_Page p_d.Loose)), (vb p_d.Down)])]) ⟨Le.refl _, True.intro⟩ ⟨⟨_, rfl, .refl _⟩, True.intro⟩ rfl) ?_
  refine Ok.seq ?_
  obtain ⟨v1, hv1, h⟩ := bindS h
  refine Ok.seqw ⟨Cat.tab [(1, (.b 1 0)), (12, (vb v1))], [(1, .box [(.s (List.map c_api_Page p_d.Synced)), (.s (List.map c_api_Page p_d.Loose)), (vb p_d.Down)])]⟩ ?_ ?_
  · refine Ok.region Try.tok ?_
    refine ⟨_, rfl, ⟨_, List.length_map _, fun _ => ?_⟩⟩
    obtain ⟨c1, hg1, hv1⟩ := bindS hv1
    refine Br.itf hg1 (fun hb hg1 => ?_) fun hb hg1 => ?_
    · cases hg1
      cases hv1
      exact Wk.tab ⟨Le.refl _, Le.refl _, True.intro⟩ ⟨⟨_, rfl, .refl _⟩, True.intro⟩ rfl
    · refine ⟨_, rfl, ⟨_, List.length_map _, fun _ => ?_⟩⟩
      cases hg1
      cases hv1
      exact Wk.tab ⟨Le.refl _, Le.refl _, True.intro⟩ ⟨⟨_, rfl, .refl _⟩, True.intro⟩ rfl
  refine Ok.cond (d := 12) (b := v1) rfl h (fun hb h => ?_) fun hb h => ?_
  · refine Ok.seq ?_
    refine Ok.region Try.tok ?_
    refine Ok.wk (Wk.tab (L := [(2, (vb false))]) (H' := []) ⟨Le.refl _, True.intro⟩ True.intro rfl) ?_
    refine Ok.ret ?_
    cases h
    exact Fz.v
  · refine Ok.skip ?_
    refine Ok.seq ?_
    refine Ok.region Try.tok ?_
    obtain ⟨x1, hx1, h⟩ := bindS h
    refine ⟨_, rfl, ?_⟩
    refine CallOk.call (w_ref04_Right hx1) (LeL.refl _) ?_
    refine Ok.wk (Wk.tab (L := [(2, (vb x1))]) (H' := []) ⟨Le.refl _, True.intro⟩ True.intro rfl) ?_
    refine Ok.ret ?_
    cases h
    exact Fz.v

theorem w_law04_own {p_d : api_Disk} {r : api_Disk} (h : law04_own p_d = some r) : Pure Try.prog 12 [(.a [(.s (List.map c_api_Page p_d.Synced)), (.s (List.map c_api_Page p_d.Loose)), (vb p_d.Down)])] (.a [(.s (List.map c_api_Page r.Synced)), (.s (List.map c_api_Page r.Loose)), (vb r.Down)]) := by
  refine pure_of_ok (n := 64) (c := (Try.f12.body.getD .skip)) Try.tok Try.func12 (by kernel_rfl) rfl rfl (Nat.le_of_ble_eq_true rfl) ?_
  unfold law04_own at h
  refine Ok.wk (Wk.tab (L := [(0, (.a [(.s (List.map c_api_Page p_d.Synced)), (.s (List.map c_api_Page p_d.Loose)), (vb p_d.Down)]))]) (H' := []) ⟨Le.refl _, True.intro⟩ True.intro rfl) ?_
  refine Ok.seq ?_
  refine Ok.region Try.tok ?_
  refine Ok.wk (Wk.tab (L := [(1, (.b 1 0)), (2, (.b 2 0))]) (H' := [(1, .box [(.s (List.map c_api_Page p_d.Synced)), (.s (List.map c_api_Page p_d.Loose)), (vb p_d.Down)]), (2, .box [(.v (.slice none 0 0)), (.v (.slice none 0 0)), (vb false)])]) ⟨Le.refl _, Le.refl _, True.intro⟩ ⟨⟨_, rfl, .refl _⟩, ⟨_, rfl, .refl _⟩, True.intro⟩ rfl) ?_
  refine Ok.seq ?_
  refine Ok.region Try.tok ?_
  refine ⟨_, rfl, ⟨_, rfl, ?_⟩⟩
  refine Ok.wk (Wk.tab (L := [(1, (.b 1 0)), (2, (.b 2 0)), (3, (.b 3 0))]) (H' := [(1, .box [(.s (List.map c_api_Page p_d.Synced)), (.s (List.map c_api_Page p_d.Loose)), (vb p_d.Down)]), (2, .box [(.v (.slice none 0 0)), (.v (.slice none 0 0)), (vb false)]), (3, .box [(.v (.slice none 0 0)), (.v (.slice none 0 0)), (vb p_d.Down)])]) ⟨Le.refl _, Le.refl _, Le.refl _, True.intro⟩ ⟨⟨_, rfl, .refl _⟩, ⟨_, rfl, .refl _⟩, ⟨_, rfl, .refl _⟩, True.intro⟩ rfl) ?_
  obtain ⟨v1, hv1, h⟩ := bindS h
  refine Ok.seqw ⟨Cat.tab [(1, (.b 1 0)), (2, (.b 2 0)), (3, (.b 3 0))], [(1, .box [(.s (List.map c_api_Page p_d.Synced)), (.s (List.map c_api_Page p_d.Loose)), (vb p_d.Down)]), (2, .box [(.v (.slice none 0 0)), (.v (.slice none 0 0)), (vb false)]), (3, .box [(.o 34), (.v (.slice none 0 0)), (vb p_d.Down)]), (34, .own 48 2 (List.map c_api_Page v1))]⟩ ?_ ?_
  · refine Ok.seq ?_
    refine Ok.region Try.tok ?_
    refine Ok.wk (Wk.tab (L := [(1, (.b 1 0)), (2, (.b 2 0)), (3, (.b 3 0)), (4, (vi (0)))]) (H' := [(1, .box [(.s (List.map c_api_Page p_d.Synced)), (.s (List.map c_api_Page p_d.Loose)), (vb p_d.Down)]), (2, .box [(.v (.slice none 0 0)), (.v (.slice none 0 0)), (vb false)]), (3, .box [(.v (.slice none 0 0)), (.v (.slice none 0 0)), (vb p_d.Down)])]) ⟨Le.refl _, Le.refl _, Le.refl _, Le.refl _, True.intro⟩ ⟨⟨_, rfl, .refl _⟩, ⟨_, rfl, .refl _⟩, ⟨_, rfl, .refl _⟩, True.intro⟩ rfl) ?_
    refine Ok.block ?_
    refine Ok.loop (fun (s1 : Int × (List api_Page)) => ⟨Cat.tab [(1, (.b 1 0)), (2, (.b 2 0)), (3, (.b 3 0)), (4, (vi s1.1))], [(1, .box [(.s (List.map c_api_Page p_d.Synced)), (.s (List.map c_api_Page p_d.Loose)), (vb p_d.Down)]), (2, .box [(.v (.slice none 0 0)), (.v (.slice none 0 0)), (vb false)]), (3, .box [(.o 34), (.v (.slice none 0 0)), (vb p_d.Down)]), (34, .own 48 2 (List.map c_api_Page s1.2))]⟩) (law04_own_B1 p_d) (s0 := (0, [])) hv1 ((Wk.ownb (b := 3) (q := 0) (id := 34) (E := 48) (K := 2) rfl rfl rfl).trans (Wk.tab ⟨Le.refl _, Le.refl _, Le.refl _, Le.refl _, True.intro⟩ ⟨⟨_, rfl, .refl _⟩, ⟨_, rfl, .refl _⟩, ⟨_, rfl, .refl _⟩, ⟨_, rfl, .refl _⟩, True.intro⟩ rfl)) ?_
    intro s1 y1 hB1 hy1
    unfold law04_own_B1 at hB1
    refine Ok.seq ?_
    refine Ok.seq ?_
    refine Ok.region Try.tok ?_
    refine ⟨_, rfl, ⟨_, List.length_map _, fun _ => ?_⟩⟩
    refine Ok.wk (Wk.tab (L := [(1, (.b 1 0)), (2, (.b 2 0)), (3, (.b 3 0)), (4, (vi s1.1)), (13, (vb ((decide (s1.1 < (p_d.Synced.length : Int))))))]) (H' := [(1, .box [(.s (List.map c_api_Page p_d.Synced)), (.s (List.map c_api_Page p_d.Loose)), (vb p_d.Down)]), (2, .box [(.v (.slice none 0 0)), (.v (.slice none 0 0)), (vb false)]), (3, .box [(.o 34), (.v (.slice none 0 0)), (vb p_d.Down)]), (34, .own 48 2 (List.map c_api_Page s1.2))]) ⟨Le.refl _, Le.refl _, Le.refl _, Le.refl _, Le.refl _, True.intro⟩ ⟨⟨_, rfl, .refl _⟩, ⟨_, rfl, .refl _⟩, ⟨_, rfl, .refl _⟩, ⟨_, rfl, .refl _⟩, True.intro⟩ rfl) ?_
    refine Ok.cond (d := 13) (b := (decide (s1.1 < (p_d.Synced.length : Int)))) rfl hB1 (fun hb hB1 => ?_) fun hb hB1 => ?_
    · refine Ok.skip ?_
      refine Ok.seq ?_
      refine Ok.block ?_
      refine Ok.draw (m := 18) (MD := ⟨[]⟩) (CH := ⟨[]⟩) Try.tok Try.mixed (by kernel_rfl) ?_
      obtain ⟨x1, hx1, hB1⟩ := bindS hB1
      obtain ⟨x2, hx2, hB1⟩ := bindS hB1
      obtain ⟨hc1, hB1⟩ := chk_some hB1
      obtain ⟨hc2, hB1⟩ := chk_some hB1
      refine ⟨_, rfl, ⟨_, ⟨_, rfl, rfl⟩, ⟨_, rfl, ⟨_, ⟨_, rfl, rfl⟩, ⟨_, rfl, ⟨_, ⟨_, idx_nat hx1, _, idx_row hx1, rfl⟩, ⟨_, rfl, ⟨_, ⟨_, rfl, rfl⟩, ⟨_, rfl, ⟨_, rfl, ⟨_, ⟨_, rfl, rfl⟩, ⟨_, rfl, ⟨_, ⟨_, idx_nat hx2, _, idx_row hx2, rfl⟩, ⟨_, rfl, ⟨_, ⟨_, rfl, rfl⟩, ⟨_, ⟨rowsLen_map (f := cU8) (n := 1) (fun _ => rfl) x2.Data, app_b1 (f := cU8) (l' := x2.Data) hc1, _, rfl, rfl⟩, ⟨_, rfl, ⟨_, rfl, ⟨True.intro, ⟨rowsLen_map (f := c_api_Page) (n := 2) (fun _ => rfl) ([(⟨x1.At, x2.Data⟩ : api_Page)]), app_b2 (f := c_api_Page) (l := s1.2) (l' := ([(⟨x1.At, x2.Data⟩ : api_Page)])) hc2, _, (List.map_append (f := c_api_Page) (l₁ := s1.2) (l₂ := ([(⟨x1.At, x2.Data⟩ : api_Page)]))).symm, ⟨_, rfl, ?_⟩⟩⟩⟩⟩⟩⟩⟩⟩⟩⟩⟩⟩⟩⟩⟩⟩⟩⟩⟩⟩
      refine Ok.wk (Wk.tab (L := [(1, (.b 1 0)), (2, (.b 2 0)), (3, (.b 3 0)), (4, (vi s1.1))]) (H' := [(1, .box [(.s (List.map c_api_Page p_d.Synced)), (.s (List.map c_api_Page p_d.Loose)), (vb p_d.Down)]), (2, .box [(.v (.slice none 0 0)), (.v (.slice none 0 0)), (vb false)]), (3, .box [(.o 34), (.v (.slice none 0 0)), (vb p_d.Down)]), (34, .own 48 2 (List.map c_api_Page ((s1.2 ++ [(⟨x1.At, x2.Data⟩ : api_Page)]))))]) ⟨Le.refl _, Le.refl _, Le.refl _, Le.refl _, True.intro⟩ ⟨⟨_, rfl, .refl _⟩, ⟨_, rfl, .refl _⟩, ⟨_, rfl, .refl _⟩, ⟨_, rfl, .refl _⟩, True.intro⟩ rfl) ?_
      refine Ok.region Try.tok ?_
      obtain ⟨hc3, hB1⟩ := chk_some hB1
      refine (Or.inl ⟨hc3, ?_⟩)
      exact ⟨_, (Option.some.inj hB1).symm, Wk.tab ⟨Le.refl _, Le.refl _, Le.refl _, Le.refl _, True.intro⟩ ⟨⟨_, rfl, .refl _⟩, ⟨_, rfl, .refl _⟩, ⟨_, rfl, .refl _⟩, ⟨_, rfl, .refl _⟩, True.intro⟩ rfl⟩
    · refine Ok.exit ?_
      have hB1 := out_ret hB1 hy1
      cases hB1
      exact Wk.tab ⟨Le.refl _, Le.refl _, Le.refl _, True.intro⟩ ⟨⟨_, rfl, .refl _⟩, ⟨_, rfl, .refl _⟩, ⟨_, rfl, .refl _⟩, ⟨_, rfl, .refl _⟩, True.intro⟩ rfl
  obtain ⟨v2, hv2, h⟩ := bindS h
  refine Ok.seqw ⟨Cat.tab [(2, (.b 2 0)), (3, (.b 3 0))], [(2, .box [(.v (.slice none 0 0)), (.v (.slice none 0 0)), (vb false)]), (3, .box [(.o 34), (.o 61), (vb p_d.Down)]), (34, .own 48 2 (List.map c_api_Page v1)), (61, .own 48 2 (List.map c_api_Page v2))]⟩ ?_ ?_
  · refine Ok.seq ?_
    refine Ok.region Try.tok ?_
    refine Ok.wk (Wk.tab (L := [(1, (.b 1 0)), (2, (.b 2 0)), (3, (.b 3 0)), (5, (vi (0)))]) (H' := [(1, .box [(.s (List.map c_api_Page p_d.Synced)), (.s (List.map c_api_Page p_d.Loose)), (vb p_d.Down)]), (2, .box [(.v (.slice none 0 0)), (.v (.slice none 0 0)), (vb false)]), (3, .box [(.o 34), (.v (.slice none 0 0)), (vb p_d.Down)]), (34, .own 48 2 (List.map c_api_Page v1))]) ⟨Le.refl _, Le.refl _, Le.refl _, Le.refl _, True.intro⟩ ⟨⟨_, rfl, .refl _⟩, ⟨_, rfl, .refl _⟩, ⟨_, rfl, .refl _⟩, ⟨_, rfl, .refl _⟩, True.intro⟩ rfl) ?_
    refine Ok.block ?_
    refine Ok.loop (fun (s2 : Int × (List api_Page)) => ⟨Cat.tab [(1, (.b 1 0)), (2, (.b 2 0)), (3, (.b 3 0)), (5, (vi s2.1))], [(1, .box [(.s (List.map c_api_Page p_d.Synced)), (.s (List.map c_api_Page p_d.Loose)), (vb p_d.Down)]), (2, .box [(.v (.slice none 0 0)), (.v (.slice none 0 0)), (vb false)]), (3, .box [(.o 34), (.o 61), (vb p_d.Down)]), (34, .own 48 2 (List.map c_api_Page v1)), (61, .own 48 2 (List.map c_api_Page s2.2))]⟩) (law04_own_B2 p_d) (s0 := (0, [])) hv2 ((Wk.ownb (b := 3) (q := 1) (id := 61) (E := 48) (K := 2) rfl rfl rfl).trans (Wk.tab ⟨Le.refl _, Le.refl _, Le.refl _, Le.refl _, True.intro⟩ ⟨⟨_, rfl, .refl _⟩, ⟨_, rfl, .refl _⟩, ⟨_, rfl, .refl _⟩, ⟨_, rfl, .refl _⟩, ⟨_, rfl, .refl _⟩, True.intro⟩ rfl)) ?_
    intro s2 y2 hB2 hy2
    unfold law04_own_B2 at hB2
    refine Ok.seq ?_
    refine Ok.seq ?_
    refine Ok.region Try.tok ?_
    refine ⟨_, rfl, ⟨_, List.length_map _, fun _ => ?_⟩⟩
    refine Ok.wk (Wk.tab (L := [(1, (.b 1 0)), (2, (.b 2 0)), (3, (.b 3 0)), (5, (vi s2.1)), (40, (vb ((decide (s2.1 < (p_d.Loose.length : Int))))))]) (H' := [(1, .box [(.s (List.map c_api_Page p_d.Synced)), (.s (List.map c_api_Page p_d.Loose)), (vb p_d.Down)]), (2, .box [(.v (.slice none 0 0)), (.v (.slice none 0 0)), (vb false)]), (3, .box [(.o 34), (.o 61), (vb p_d.Down)]), (34, .own 48 2 (List.map c_api_Page v1)), (61, .own 48 2 (List.map c_api_Page s2.2))]) ⟨Le.refl _, Le.refl _, Le.refl _, Le.refl _, Le.refl _, True.intro⟩ ⟨⟨_, rfl, .refl _⟩, ⟨_, rfl, .refl _⟩, ⟨_, rfl, .refl _⟩, ⟨_, rfl, .refl _⟩, ⟨_, rfl, .refl _⟩, True.intro⟩ rfl) ?_
    refine Ok.cond (d := 40) (b := (decide (s2.1 < (p_d.Loose.length : Int)))) rfl hB2 (fun hb hB2 => ?_) fun hb hB2 => ?_
    · refine Ok.skip ?_
      refine Ok.seq ?_
      refine Ok.block ?_
      refine Ok.draw (m := 18) (MD := ⟨[]⟩) (CH := ⟨[]⟩) Try.tok Try.mixed (by kernel_rfl) ?_
      obtain ⟨x3, hx3, hB2⟩ := bindS hB2
      obtain ⟨x4, hx4, hB2⟩ := bindS hB2
      obtain ⟨hc4, hB2⟩ := chk_some hB2
      obtain ⟨hc5, hB2⟩ := chk_some hB2
      refine ⟨_, rfl, ⟨_, ⟨_, rfl, rfl⟩, ⟨_, rfl, ⟨_, ⟨_, rfl, rfl⟩, ⟨_, rfl, ⟨_, ⟨_, idx_nat hx3, _, idx_row hx3, rfl⟩, ⟨_, rfl, ⟨_, ⟨_, rfl, rfl⟩, ⟨_, rfl, ⟨_, rfl, ⟨_, ⟨_, rfl, rfl⟩, ⟨_, rfl, ⟨_, ⟨_, idx_nat hx4, _, idx_row hx4, rfl⟩, ⟨_, rfl, ⟨_, ⟨_, rfl, rfl⟩, ⟨_, ⟨rowsLen_map (f := cU8) (n := 1) (fun _ => rfl) x4.Data, app_b1 (f := cU8) (l' := x4.Data) hc4, _, rfl, rfl⟩, ⟨_, rfl, ⟨_, rfl, ⟨True.intro, ⟨rowsLen_map (f := c_api_Page) (n := 2) (fun _ => rfl) ([(⟨x3.At, x4.Data⟩ : api_Page)]), app_b2 (f := c_api_Page) (l := s2.2) (l' := ([(⟨x3.At, x4.Data⟩ : api_Page)])) hc5, _, (List.map_append (f := c_api_Page) (l₁ := s2.2) (l₂ := ([(⟨x3.At, x4.Data⟩ : api_Page)]))).symm, ⟨_, rfl, ?_⟩⟩⟩⟩⟩⟩⟩⟩⟩⟩⟩⟩⟩⟩⟩⟩⟩⟩⟩⟩⟩
      refine Ok.wk (Wk.tab (L := [(1, (.b 1 0)), (2, (.b 2 0)), (3, (.b 3 0)), (5, (vi s2.1))]) (H' := [(1, .box [(.s (List.map c_api_Page p_d.Synced)), (.s (List.map c_api_Page p_d.Loose)), (vb p_d.Down)]), (2, .box [(.v (.slice none 0 0)), (.v (.slice none 0 0)), (vb false)]), (3, .box [(.o 34), (.o 61), (vb p_d.Down)]), (34, .own 48 2 (List.map c_api_Page v1)), (61, .own 48 2 (List.map c_api_Page ((s2.2 ++ [(⟨x3.At, x4.Data⟩ : api_Page)]))))]) ⟨Le.refl _, Le.refl _, Le.refl _, Le.refl _, True.intro⟩ ⟨⟨_, rfl, .refl _⟩, ⟨_, rfl, .refl _⟩, ⟨_, rfl, .refl _⟩, ⟨_, rfl, .refl _⟩, ⟨_, rfl, .refl _⟩, True.intro⟩ rfl) ?_
      refine Ok.region Try.tok ?_
      obtain ⟨hc6, hB2⟩ := chk_some hB2
      refine (Or.inl ⟨hc6, ?_⟩)
      exact ⟨_, (Option.some.inj hB2).symm, Wk.tab ⟨Le.refl _, Le.refl _, Le.refl _, Le.refl _, True.intro⟩ ⟨⟨_, rfl, .refl _⟩, ⟨_, rfl, .refl _⟩, ⟨_, rfl, .refl _⟩, ⟨_, rfl, .refl _⟩, ⟨_, rfl, .refl _⟩, True.intro⟩ rfl⟩
    · refine Ok.exit ?_
      have hB2 := out_ret hB2 hy2
      cases hB2
      exact Wk.tab ⟨Le.refl _, Le.refl _, True.intro⟩ ⟨⟨_, rfl, .refl _⟩, ⟨_, rfl, .refl _⟩, ⟨_, rfl, .refl _⟩, ⟨_, rfl, .refl _⟩, True.intro⟩ rfl
  refine Ok.seq ?_
  refine Ok.region Try.tok ?_
  refine ⟨_, rfl, ⟨_, rfl, ?_⟩⟩
  refine Ok.wk (Wk.tab (L := [(2, (.b 2 0))]) (H' := [(2, .box [(.o 34), (.o 61), (vb p_d.Down)]), (34, .own 48 2 (List.map c_api_Page v1)), (61, .own 48 2 (List.map c_api_Page v2))]) ⟨Le.refl _, True.intro⟩ ⟨⟨_, rfl, .refl _⟩, ⟨_, rfl, .refl _⟩, ⟨_, rfl, .refl _⟩, True.intro⟩ rfl) ?_
  refine Ok.ret ?_
  cases h
  exact ⟨_, rfl, (Fz.a (.cons (Fz.o rfl) (.cons (Fz.o rfl) (.cons Fz.v .nil))))⟩
end Go.Proofs
