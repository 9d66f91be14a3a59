/- The walks of this seat beside the plain programs, part 1. No condition. -/
import Derived.Test.YtlhgbjgfnihijaaXDiskTellsEn
import Derived.Test.YtlhgbjgfnihijaaXDiskTellsWk0
namespace Go.Proofs
set_option linter.all false
open Go Go.Cat
variable [M : Mono]
set_option maxRecDepth 100000

theorem w_law04_step [Off] {p_d : api_Disk} {p_x : law04_Act} {r : api_Disk × Int} (h : law04_step p_d p_x = some r) : Pure Try.prog 13 [(.a [(.s (List.map c_api_Page p_d.Synced)), (.s (List.map c_api_Page p_d.Loose)), (vb p_d.Down)]), (.a [(vi p_x.Do), (vi p_x.At), (vi p_x.N), (.s (List.map cU8 p_x.Data))])] (.t [(.a [(.s (List.map c_api_Page r.1.Synced)), (.s (List.map c_api_Page r.1.Loose)), (vb r.1.Down)]), (vi r.2)]) := by
  refine pure_of_ok (n := 53) (c := (Try.f13.body.getD .skip)) Try.tok Try.func13 (by kernel_rfl) rfl rfl (Nat.le_of_ble_eq_true rfl) ?_
  unfold law04_step at h
  refine Ok.wk (Wk.tab (L := [(0, (.a [(.s (List.map c_api_Page p_d.Synced)), (.s (List.map c_api_Page p_d.Loose)), (vb p_d.Down)])), (1, (.a [(vi p_x.Do), (vi p_x.At), (vi p_x.N), (.s (List.map cU8 p_x.Data))]))]) (H' := []) ⟨Le.refl _, Le.refl _, True.intro⟩ True.intro rfl) ?_
  refine Ok.seq ?_
  refine Ok.region Try.tok ?_
  refine Ok.wk (Wk.tab (L := [(2, (.b 2 0)), (3, (.b 3 0)), (4, (.b 4 0))]) (H' := [(2, .box [(.s (List.map c_api_Page p_d.Synced)), (.s (List.map c_api_Page p_d.Loose)), (vb p_d.Down)]), (3, .box [(vi p_x.Do), (vi p_x.At), (vi p_x.N), (.s (List.map cU8 p_x.Data))]), (4, .box [(.v (.slice none 0 0)), (.v (.slice none 0 0)), (vb false)])]) ⟨Le.refl _, Le.refl _, Le.refl _, True.intro⟩ ⟨⟨_, rfl, .refl _⟩, ⟨_, rfl, .refl _⟩, ⟨_, rfl, .refl _⟩, True.intro⟩ rfl) ?_
  refine Ok.seq ?_
  refine Ok.seq ?_
  refine Ok.region Try.tok ?_
  refine ⟨_, rfl, ?_⟩
  refine Ok.wk (Wk.tab (L := [(2, (.b 2 0)), (3, (.b 3 0)), (4, (.b 4 0)), (11, (vi p_x.Do))]) (H' := [(2, .box [(.s (List.map c_api_Page p_d.Synced)), (.s (List.map c_api_Page p_d.Loose)), (vb p_d.Down)]), (3, .box [(vi p_x.Do), (vi p_x.At), (vi p_x.N), (.s (List.map cU8 p_x.Data))]), (4, .box [(.v (.slice none 0 0)), (.v (.slice none 0 0)), (vb false)])]) ⟨Le.refl _, Le.refl _, Le.refl _, Le.refl _, True.intro⟩ ⟨⟨_, rfl, .refl _⟩, ⟨_, rfl, .refl _⟩, ⟨_, rfl, .refl _⟩, True.intro⟩ rfl) ?_
  refine Ok.block ?_
  refine Ok.seq ?_
  refine Ok.region Try.tok ?_
  refine Ok.wk (Wk.tab (L := [(2, (.b 2 0)), (3, (.b 3 0)), (4, (.b 4 0)), (11, (vi p_x.Do)), (12, (vb ((p_x.Do == 0))))]) (H' := [(2, .box [(.s (List.map c_api_Page p_d.Synced)), (.s (List.map c_api_Page p_d.Loose)), (vb p_d.Down)]), (3, .box [(vi p_x.Do), (vi p_x.At), (vi p_x.N), (.s (List.map cU8 p_x.Data))]), (4, .box [(.v (.slice none 0 0)), (.v (.slice none 0 0)), (vb false)])]) ⟨Le.refl _, Le.refl _, Le.refl _, Le.refl _, Le.refl _, True.intro⟩ ⟨⟨_, rfl, .refl _⟩, ⟨_, rfl, .refl _⟩, ⟨_, rfl, .refl _⟩, True.intro⟩ rfl) ?_
  refine Ok.cond (d := 12) (b := (p_x.Do == 0)) rfl h (fun hb h => ?_) fun hb h => ?_
  · refine Ok.seq ?_
    refine Ok.region Try.tok ?_
    obtain ⟨x1, hx1, h⟩ := bindS h
    refine ⟨_, rfl, ⟨_, rfl, ⟨_, rfl, ?_⟩⟩⟩
    refine CallOk.call (w_disk_Write hx1) (LeL.refl _) ?_
    refine ⟨_, rfl, ?_⟩
    refine Ok.wk (Wk.tab (L := [(4, (.b 4 0)), (6, (.b 6 0)), (7, (vi x1.2))]) (H' := [(4, .box [(.v (.slice none 0 0)), (.v (.slice none 0 0)), (vb false)]), (6, .box [(.s (List.map c_api_Page x1.1.Synced)), (.s (List.map c_api_Page x1.1.Loose)), (vb x1.1.Down)])]) ⟨Le.refl _, Le.refl _, Le.refl _, True.intro⟩ ⟨⟨_, rfl, .refl _⟩, ⟨_, rfl, .refl _⟩, True.intro⟩ rfl) ?_
    refine Ok.seq ?_
    refine Ok.region Try.tok ?_
    refine ⟨_, rfl, ⟨_, rfl, ?_⟩⟩
    refine Ok.wk (Wk.tab (L := [(4, (.b 4 0)), (5, (vi x1.2))]) (H' := [(4, .box [(.s (List.map c_api_Page x1.1.Synced)), (.s (List.map c_api_Page x1.1.Loose)), (vb x1.1.Down)])]) ⟨Le.refl _, Le.refl _, True.intro⟩ ⟨⟨_, rfl, .refl _⟩, True.intro⟩ rfl) ?_
    refine Ok.ret ?_
    cases h
    exact ⟨_, rfl, (Fz.t (.cons (Fz.imm rfl) (.cons Fz.v .nil)))⟩
  · refine Ok.seq ?_
    refine Ok.region Try.tok ?_
    refine Ok.wk (Wk.tab (L := [(2, (.b 2 0)), (3, (.b 3 0)), (4, (.b 4 0)), (11, (vi p_x.Do)), (25, (vb ((p_x.Do == 1))))]) (H' := [(2, .box [(.s (List.map c_api_Page p_d.Synced)), (.s (List.map c_api_Page p_d.Loose)), (vb p_d.Down)]), (3, .box [(vi p_x.Do), (vi p_x.At), (vi p_x.N), (.s (List.map cU8 p_x.Data))]), (4, .box [(.v (.slice none 0 0)), (.v (.slice none 0 0)), (vb false)])]) ⟨Le.refl _, Le.refl _, Le.refl _, Le.refl _, Le.refl _, True.intro⟩ ⟨⟨_, rfl, .refl _⟩, ⟨_, rfl, .refl _⟩, ⟨_, rfl, .refl _⟩, True.intro⟩ rfl) ?_
    refine Ok.cond (d := 25) (b := (p_x.Do == 1)) rfl h (fun hb h => ?_) fun hb h => ?_
    · refine Ok.seq ?_
      refine Ok.region Try.tok ?_
      obtain ⟨x2, hx2, h⟩ := bindS h
      refine ⟨_, rfl, ?_⟩
      refine CallOk.call (w_disk_Sync hx2) (LeL.refl _) ?_
      refine ⟨_, rfl, ?_⟩
      refine Ok.wk (Wk.tab (L := [(4, (.b 4 0)), (8, (.b 8 0)), (9, (vi x2.2))]) (H' := [(4, .box [(.v (.slice none 0 0)), (.v (.slice none 0 0)), (vb false)]), (8, .box [(.s (List.map c_api_Page x2.1.Synced)), (.s (List.map c_api_Page x2.1.Loose)), (vb x2.1.Down)])]) ⟨Le.refl _, Le.refl _, Le.refl _, True.intro⟩ ⟨⟨_, rfl, .refl _⟩, ⟨_, rfl, .refl _⟩, True.intro⟩ rfl) ?_
      refine Ok.seq ?_
      refine Ok.region Try.tok ?_
      refine ⟨_, rfl, ⟨_, rfl, ?_⟩⟩
      refine Ok.wk (Wk.tab (L := [(4, (.b 4 0)), (5, (vi x2.2))]) (H' := [(4, .box [(.s (List.map c_api_Page x2.1.Synced)), (.s (List.map c_api_Page x2.1.Loose)), (vb x2.1.Down)])]) ⟨Le.refl _, Le.refl _, True.intro⟩ ⟨⟨_, rfl, .refl _⟩, True.intro⟩ rfl) ?_
      refine Ok.ret ?_
      cases h
      exact ⟨_, rfl, (Fz.t (.cons (Fz.imm rfl) (.cons Fz.v .nil)))⟩
    · refine Ok.seq ?_
      refine Ok.region Try.tok ?_
      refine Ok.wk (Wk.tab (L := [(2, (.b 2 0)), (3, (.b 3 0)), (4, (.b 4 0)), (11, (vi p_x.Do)), (34, (vb ((p_x.Do == 2))))]) (H' := [(2, .box [(.s (List.map c_api_Page p_d.Synced)), (.s (List.map c_api_Page p_d.Loose)), (vb p_d.Down)]), (3, .box [(vi p_x.Do), (vi p_x.At), (vi p_x.N), (.s (List.map cU8 p_x.Data))]), (4, .box [(.v (.slice none 0 0)), (.v (.slice none 0 0)), (vb false)])]) ⟨Le.refl _, Le.refl _, Le.refl _, Le.refl _, Le.refl _, True.intro⟩ ⟨⟨_, rfl, .refl _⟩, ⟨_, rfl, .refl _⟩, ⟨_, rfl, .refl _⟩, True.intro⟩ rfl) ?_
      refine Ok.cond (d := 34) (b := (p_x.Do == 2)) rfl h (fun hb h => ?_) fun hb h => ?_
      · refine Ok.seq ?_
        refine Ok.region Try.tok ?_
        obtain ⟨x3, hx3, h⟩ := bindS h
        refine ⟨_, rfl, ⟨_, rfl, ?_⟩⟩
        refine CallOk.call (w_disk_Crash hx3) (LeL.refl _) ?_
        refine ⟨_, rfl, ?_⟩
        refine Ok.wk (Wk.tab (L := [(4, (.b 4 0)), (5, (vi (0)))]) (H' := [(4, .box [(.s (List.map c_api_Page x3.Synced)), (.s (List.map c_api_Page x3.Loose)), (vb x3.Down)])]) ⟨Le.refl _, Le.refl _, True.intro⟩ ⟨⟨_, rfl, .refl _⟩, True.intro⟩ rfl) ?_
        refine Ok.ret ?_
        cases h
        exact ⟨_, rfl, (Fz.t (.cons (Fz.imm rfl) (.cons Fz.v .nil)))⟩
      · refine Ok.seq ?_
        refine Ok.region Try.tok ?_
        refine Ok.wk (Wk.tab (L := [(2, (.b 2 0)), (3, (.b 3 0)), (4, (.b 4 0)), (11, (vi p_x.Do)), (40, (vb ((p_x.Do == 3))))]) (H' := [(2, .box [(.s (List.map c_api_Page p_d.Synced)), (.s (List.map c_api_Page p_d.Loose)), (vb p_d.Down)]), (3, .box [(vi p_x.Do), (vi p_x.At), (vi p_x.N), (.s (List.map cU8 p_x.Data))]), (4, .box [(.v (.slice none 0 0)), (.v (.slice none 0 0)), (vb false)])]) ⟨Le.refl _, Le.refl _, Le.refl _, Le.refl _, Le.refl _, True.intro⟩ ⟨⟨_, rfl, .refl _⟩, ⟨_, rfl, .refl _⟩, ⟨_, rfl, .refl _⟩, True.intro⟩ rfl) ?_
        refine Ok.cond (d := 40) (b := (p_x.Do == 3)) rfl h (fun hb h => ?_) fun hb h => ?_
        · refine Ok.seq ?_
          refine Ok.region Try.tok ?_
          obtain ⟨x4, hx4, h⟩ := bindS h
          refine ⟨_, rfl, ?_⟩
          refine CallOk.call (w_disk_Up hx4) (LeL.refl _) ?_
          refine ⟨_, rfl, ?_⟩
          refine Ok.wk (Wk.tab (L := [(4, (.b 4 0)), (5, (vi (0)))]) (H' := [(4, .box [(.s (List.map c_api_Page x4.Synced)), (.s (List.map c_api_Page x4.Loose)), (vb x4.Down)])]) ⟨Le.refl _, Le.refl _, True.intro⟩ ⟨⟨_, rfl, .refl _⟩, True.intro⟩ rfl) ?_
          refine Ok.ret ?_
          cases h
          exact ⟨_, rfl, (Fz.t (.cons (Fz.imm rfl) (.cons Fz.v .nil)))⟩
        · refine Ok.seq ?_
          refine Ok.region Try.tok ?_
          refine Ok.wk (Wk.tab (L := [(2, (.b 2 0)), (3, (.b 3 0)), (4, (.b 4 0)), (44, (vb ((p_x.Do == 4))))]) (H' := [(2, .box [(.s (List.map c_api_Page p_d.Synced)), (.s (List.map c_api_Page p_d.Loose)), (vb p_d.Down)]), (3, .box [(vi p_x.Do), (vi p_x.At), (vi p_x.N), (.s (List.map cU8 p_x.Data))]), (4, .box [(.v (.slice none 0 0)), (.v (.slice none 0 0)), (vb false)])]) ⟨Le.refl _, Le.refl _, Le.refl _, Le.refl _, True.intro⟩ ⟨⟨_, rfl, .refl _⟩, ⟨_, rfl, .refl _⟩, ⟨_, rfl, .refl _⟩, True.intro⟩ rfl) ?_
          refine Ok.cond (d := 44) (b := (p_x.Do == 4)) rfl h (fun hb h => ?_) fun hb h => ?_
          · refine Ok.seq ?_
            refine Ok.region Try.tok ?_
            obtain ⟨x5, hx5, h⟩ := bindS h
            refine ⟨_, rfl, ⟨_, rfl, ⟨_, rfl, ?_⟩⟩⟩
            refine CallOk.call (w_disk_Rot hx5) (LeL.refl _) ?_
            refine ⟨_, rfl, ?_⟩
            refine Ok.wk (Wk.tab (L := [(4, (.b 4 0)), (5, (vi (0)))]) (H' := [(4, .box [(.s (List.map c_api_Page x5.Synced)), (.s (List.map c_api_Page x5.Loose)), (vb x5.Down)])]) ⟨Le.refl _, Le.refl _, True.intro⟩ ⟨⟨_, rfl, .refl _⟩, True.intro⟩ rfl) ?_
            refine Ok.ret ?_
            cases h
            exact ⟨_, rfl, (Fz.t (.cons (Fz.imm rfl) (.cons Fz.v .nil)))⟩
          · refine Ok.skip ?_
            refine Ok.seq ?_
            refine Ok.region Try.tok ?_
            refine ⟨_, rfl, ⟨_, rfl, ?_⟩⟩
            refine Ok.wk (Wk.tab (L := [(4, (.b 4 0)), (5, (vi (0)))]) (H' := [(4, .box [(.s (List.map c_api_Page p_d.Synced)), (.s (List.map c_api_Page p_d.Loose)), (vb p_d.Down)])]) ⟨Le.refl _, Le.refl _, True.intro⟩ ⟨⟨_, rfl, .refl _⟩, True.intro⟩ rfl) ?_
            refine Ok.ret ?_
            cases h
            exact ⟨_, rfl, (Fz.t (.cons (Fz.imm rfl) (.cons Fz.v .nil)))⟩

theorem w_ref04_Write {p_d : api_Disk} {p_at : Int} {p_data : List UInt8} {r : api_Disk × Int} (h : ref04_Write p_d p_at p_data = some r) : Pure Try.prog 29 [(.a [(.s (List.map c_api_Page p_d.Synced)), (.s (List.map c_api_Page p_d.Loose)), (vb p_d.Down)]), (vi p_at), (.s (List.map cU8 p_data))] (.t [(.a [(.s (List.map c_api_Page r.1.Synced)), (.s (List.map c_api_Page r.1.Loose)), (vb r.1.Down)]), (vi r.2)]) := by
  refine pure_of_ok (n := 38) (c := (Try.f29.body.getD .skip)) Try.tok Try.func29 (by kernel_rfl) rfl rfl (Nat.le_of_ble_eq_true rfl) ?_
  unfold ref04_Write at h
  refine Ok.wk (Wk.tab (L := [(0, (.a [(.s (List.map c_api_Page p_d.Synced)), (.s (List.map c_api_Page p_d.Loose)), (vb p_d.Down)])), (1, (vi p_at)), (2, (.s (List.map cU8 p_data)))]) (H' := []) ⟨Le.refl _, Le.refl _, Le.refl _, True.intro⟩ True.intro rfl) ?_
  refine Ok.seq ?_
  refine Ok.region Try.tok ?_
  refine Ok.wk (Wk.tab (L := [(1, (vi p_at)), (2, (.s (List.map cU8 p_data))), (3, (.b 3 0)), (6, (.b 6 0))]) (H' := [(3, .box [(.s (List.map c_api_Page p_d.Synced)), (.s (List.map c_api_Page p_d.Loose)), (vb p_d.Down)]), (6, .box [(.v (.slice none 0 0)), (.v (.slice none 0 0)), (vb false)])]) ⟨Le.refl _, Le.refl _, Le.refl _, Le.refl _, True.intro⟩ ⟨⟨_, rfl, .refl _⟩, ⟨_, rfl, .refl _⟩, True.intro⟩ rfl) ?_
  refine Ok.seq ?_
  refine Ok.seq ?_
  refine Ok.region Try.tok ?_
  refine ⟨_, rfl, ?_⟩
  refine Ok.wk (Wk.tab (L := [(1, (vi p_at)), (2, (.s (List.map cU8 p_data))), (3, (.b 3 0)), (6, (.b 6 0)), (12, (vb p_d.Down))]) (H' := [(3, .box [(.s (List.map c_api_Page p_d.Synced)), (.s (List.map c_api_Page p_d.Loose)), (vb p_d.Down)]), (6, .box [(.v (.slice none 0 0)), (.v (.slice none 0 0)), (vb false)])]) ⟨Le.refl _, Le.refl _, Le.refl _, Le.refl _, Le.refl _, True.intro⟩ ⟨⟨_, rfl, .refl _⟩, ⟨_, rfl, .refl _⟩, True.intro⟩ rfl) ?_
  refine Ok.cond (d := 12) (b := p_d.Down) rfl h (fun hb h => ?_) fun hb h => ?_
  · refine Ok.seq ?_
    refine Ok.region Try.tok ?_
    refine ⟨_, rfl, ⟨_, rfl, ?_⟩⟩
    refine Ok.wk (Wk.tab (L := [(6, (.b 6 0)), (7, (vi (40)))]) (H' := [(6, .box [(.s (List.map c_api_Page p_d.Synced)), (.s (List.map c_api_Page p_d.Loose)), (vb p_d.Down)])]) ⟨Le.refl _, Le.refl _, True.intro⟩ ⟨⟨_, rfl, .refl _⟩, True.intro⟩ rfl) ?_
    refine Ok.ret ?_
    cases h
    exact ⟨_, rfl, (Fz.t (.cons (Fz.imm rfl) (.cons Fz.v .nil)))⟩
  · refine Ok.skip ?_
    refine Ok.seq ?_
    refine Ok.region Try.tok ?_
    refine ⟨_, rfl, ?_⟩
    refine Ok.wk (Wk.tab (L := [(3, (.b 3 0)), (6, (.b 6 0)), (8, (.b 8 0))]) (H' := [(3, .box [(.s (List.map c_api_Page p_d.Synced)), (.s (List.map c_api_Page p_d.Loose)), (vb p_d.Down)]), (6, .box [(.v (.slice none 0 0)), (.v (.slice none 0 0)), (vb false)]), (8, .box [(vi p_at), (.s (List.map cU8 p_data))])]) ⟨Le.refl _, Le.refl _, Le.refl _, True.intro⟩ ⟨⟨_, rfl, .refl _⟩, ⟨_, rfl, .refl _⟩, ⟨_, rfl, .refl _⟩, True.intro⟩ rfl) ?_
    refine Ok.seq ?_
    refine Ok.region Try.tok ?_
    obtain ⟨x1, hx1, h⟩ := bindS h
    refine ⟨_, rfl, ?_⟩
    refine CallOk.call (w_ref04_Page hx1) (LeL.refl _) ?_
    refine Ok.wk (Wk.tab (L := [(3, (.b 3 0)), (6, (.b 6 0)), (8, (.b 8 0)), (9, (vb x1))]) (H' := [(3, .box [(.s (List.map c_api_Page p_d.Synced)), (.s (List.map c_api_Page p_d.Loose)), (vb p_d.Down)]), (6, .box [(.v (.slice none 0 0)), (.v (.slice none 0 0)), (vb false)]), (8, .box [(vi p_at), (.s (List.map cU8 p_data))])]) ⟨Le.refl _, Le.refl _, Le.refl _, Le.refl _, True.intro⟩ ⟨⟨_, rfl, .refl _⟩, ⟨_, rfl, .refl _⟩, ⟨_, rfl, .refl _⟩, True.intro⟩ rfl) ?_
    refine Ok.seq ?_
    refine Ok.seq ?_
    refine Ok.region Try.tok ?_
    refine Ok.wk (Wk.tab (L := [(3, (.b 3 0)), (6, (.b 6 0)), (8, (.b 8 0)), (20, (vb ((!x1))))]) (H' := [(3, .box [(.s (List.map c_api_Page p_d.Synced)), (.s (List.map c_api_Page p_d.Loose)), (vb p_d.Down)]), (6, .box [(.v (.slice none 0 0)), (.v (.slice none 0 0)), (vb false)]), (8, .box [(vi p_at), (.s (List.map cU8 p_data))])]) ⟨Le.refl _, Le.refl _, Le.refl _, Le.refl _, True.intro⟩ ⟨⟨_, rfl, .refl _⟩, ⟨_, rfl, .refl _⟩, ⟨_, rfl, .refl _⟩, True.intro⟩ rfl) ?_
    refine Ok.cond (d := 20) (b := (!x1)) rfl h (fun hb h => ?_) fun hb h => ?_
    · refine Ok.seq ?_
      refine Ok.region Try.tok ?_
      refine ⟨_, rfl, ⟨_, rfl, ?_⟩⟩
      refine Ok.wk (Wk.tab (L := [(6, (.b 6 0)), (7, (vi (1)))]) (H' := [(6, .box [(.s (List.map c_api_Page p_d.Synced)), (.s (List.map c_api_Page p_d.Loose)), (vb p_d.Down)])]) ⟨Le.refl _, Le.refl _, True.intro⟩ ⟨⟨_, rfl, .refl _⟩, True.intro⟩ rfl) ?_
      refine Ok.ret ?_
      cases h
      exact ⟨_, rfl, (Fz.t (.cons (Fz.imm rfl) (.cons Fz.v .nil)))⟩
    · refine Ok.skip ?_
      refine Ok.seq ?_
      refine Ok.region Try.tok ?_
      refine ⟨_, rfl, ⟨_, rfl, ?_⟩⟩
      refine Ok.wk (Wk.tab (L := [(3, (.b 3 0)), (6, (.b 6 0)), (8, (.b 8 0)), (10, (.b 10 0))]) (H' := [(3, .box [(.s (List.map c_api_Page p_d.Synced)), (.s (List.map c_api_Page p_d.Loose)), (vb p_d.Down)]), (6, .box [(.v (.slice none 0 0)), (.v (.slice none 0 0)), (vb false)]), (8, .box [(vi p_at), (.s (List.map cU8 p_data))]), (10, .box [(.s (List.map c_api_Page p_d.Synced)), (.v (.slice none 0 0)), (vb false)])]) ⟨Le.refl _, Le.refl _, Le.refl _, Le.refl _, True.intro⟩ ⟨⟨_, rfl, .refl _⟩, ⟨_, rfl, .refl _⟩, ⟨_, rfl, .refl _⟩, ⟨_, rfl, .refl _⟩, True.intro⟩ rfl) ?_
      refine Ok.seq ?_
      refine Ok.region Try.tok ?_
      obtain ⟨hc1, h⟩ := chk_some h
      refine ⟨_, rfl, ⟨_, rfl, ⟨rowsLen_map (f := c_api_Page) (n := 2) (fun _ => rfl) p_d.Loose, app_b1 (f := c_api_Page) (l' := p_d.Loose) hc1, _, rfl, ⟨_, rfl, ?_⟩⟩⟩⟩
      refine Ok.wk (Wk.tab (L := [(6, (.b 6 0)), (8, (.b 8 0)), (10, (.b 10 0))]) (H' := [(6, .box [(.v (.slice none 0 0)), (.v (.slice none 0 0)), (vb false)]), (8, .box [(vi p_at), (.s (List.map cU8 p_data))]), (10, .box [(.s (List.map c_api_Page p_d.Synced)), (.o 29), (vb false)]), (29, .own 48 2 (List.map c_api_Page p_d.Loose))]) ⟨Le.refl _, Le.refl _, Le.refl _, True.intro⟩ ⟨⟨_, rfl, .refl _⟩, ⟨_, rfl, .refl _⟩, ⟨_, rfl, .refl _⟩, ⟨_, rfl, .refl _⟩, True.intro⟩ rfl) ?_
      refine Ok.seq ?_
      refine Ok.region Try.tok ?_
      obtain ⟨hc2, h⟩ := chk_some h
      refine ⟨_, rfl, ⟨_, rfl, Or.inl ⟨rowsLen_map (f := c_api_Page) (n := 2) (fun _ => rfl) ([(⟨p_at, p_data⟩ : api_Page)]), app_b2 (f := c_api_Page) (l := p_d.Loose) (l' := ([(⟨p_at, p_data⟩ : api_Page)])) hc2, _, (List.map_append (f := c_api_Page) (l₁ := p_d.Loose) (l₂ := ([(⟨p_at, p_data⟩ : api_Page)]))).symm, ⟨_, rfl, ?_⟩⟩⟩⟩
      refine Ok.wk (Wk.tab (L := [(6, (.b 6 0)), (10, (.b 10 0))]) (H' := [(6, .box [(.v (.slice none 0 0)), (.v (.slice none 0 0)), (vb false)]), (10, .box [(.s (List.map c_api_Page p_d.Synced)), (.o 29), (vb false)]), (29, .own 48 2 (List.map c_api_Page ((p_d.Loose ++ [(⟨p_at, p_data⟩ : api_Page)]))))]) ⟨Le.refl _, Le.refl _, True.intro⟩ ⟨⟨_, rfl, .refl _⟩, ⟨_, rfl, .refl _⟩, ⟨_, rfl, .refl _⟩, True.intro⟩ rfl) ?_
      refine Ok.seq ?_
      refine Ok.region Try.tok ?_
      refine ⟨_, rfl, ⟨_, rfl, ?_⟩⟩
      refine Ok.wk (Wk.tab (L := [(6, (.b 6 0)), (7, (vi (0)))]) (H' := [(6, .box [(.s (List.map c_api_Page p_d.Synced)), (.o 29), (vb false)]), (29, .own 48 2 (List.map c_api_Page ((p_d.Loose ++ [(⟨p_at, p_data⟩ : api_Page)]))))]) ⟨Le.refl _, Le.refl _, True.intro⟩ ⟨⟨_, rfl, .refl _⟩, ⟨_, rfl, .refl _⟩, True.intro⟩ rfl) ?_
      refine Ok.ret ?_
      cases h
      exact ⟨_, rfl, (Fz.t (.cons (Fz.a (.cons Fz.s (.cons (Fz.o rfl) (.cons Fz.v .nil)))) (.cons Fz.v .nil)))⟩

theorem wo_ref04_lay {p_l : List api_Page} {p_p : api_Page} {r : (List api_Page)} (h : ref04_lay p_l p_p = some r) : POwn Try.prog 43 [(.s (List.map c_api_Page p_l)), (.a [(vi p_p.At), (.s (List.map cU8 p_p.Data))])] 48 2 (List.map c_api_Page r) := by
  refine pown_of_ok (n := 52) (c := (Try.f43.body.getD .skip)) Try.tok Try.func43 (by kernel_rfl) rfl rfl (Nat.le_of_ble_eq_true rfl) ?_
  unfold ref04_lay at h
  refine Ok.wk (Wk.tab (L := [(0, (.s (List.map c_api_Page p_l))), (1, (.a [(vi p_p.At), (.s (List.map cU8 p_p.Data))]))]) (H' := []) ⟨Le.refl _, Le.refl _, True.intro⟩ True.intro rfl) ?_
  refine Ok.seq ?_
  refine Ok.region Try.tok ?_
  refine Ok.wk (Wk.tab (L := [(0, (.s (List.map c_api_Page p_l))), (3, (.b 3 0))]) (H' := [(3, .box [(vi p_p.At), (.s (List.map cU8 p_p.Data))])]) ⟨Le.refl _, Le.refl _, True.intro⟩ ⟨⟨_, rfl, .refl _⟩, True.intro⟩ rfl) ?_
  refine Ok.seq ?_
  refine Ok.region Try.tok ?_
  refine Ok.wk (Wk.tab (L := [(0, (.s (List.map c_api_Page p_l))), (3, (.b 3 0)), (5, (.v (.slice none 0 0)))]) (H' := [(3, .box [(vi p_p.At), (.s (List.map cU8 p_p.Data))])]) ⟨Le.refl _, Le.refl _, Le.refl _, True.intro⟩ ⟨⟨_, rfl, .refl _⟩, True.intro⟩ rfl) ?_
  refine Ok.seq ?_
  refine Ok.region Try.tok ?_
  refine Ok.wk (Wk.tab (L := [(0, (.s (List.map c_api_Page p_l))), (3, (.b 3 0)), (5, (.v (.slice none 0 0))), (6, (vb false))]) (H' := [(3, .box [(vi p_p.At), (.s (List.map cU8 p_p.Data))])]) ⟨Le.refl _, Le.refl _, Le.refl _, Le.refl _, True.intro⟩ ⟨⟨_, rfl, .refl _⟩, True.intro⟩ rfl) ?_
  obtain ⟨v1, hv1, h⟩ := bindS h
  refine Ok.seqw ⟨Cat.tab [(3, (.b 3 0)), (5, (.o 29)), (6, (vb v1.1))], [(3, .box [(vi p_p.At), (.s (List.map cU8 p_p.Data))]), (29, .own 48 2 (List.map c_api_Page v1.2))]⟩ ?_ ?_
  · refine Ok.seq ?_
    refine Ok.region Try.tok ?_
    refine Ok.wk (Wk.tab (L := [(0, (.s (List.map c_api_Page p_l))), (3, (.b 3 0)), (5, (.v (.slice none 0 0))), (6, (vb false)), (7, (vi (0)))]) (H' := [(3, .box [(vi p_p.At), (.s (List.map cU8 p_p.Data))])]) ⟨Le.refl _, Le.refl _, Le.refl _, Le.refl _, Le.refl _, True.intro⟩ ⟨⟨_, rfl, .refl _⟩, True.intro⟩ rfl) ?_
    refine Ok.block ?_
    refine Ok.loop (fun (s1 : Bool × Int × (List api_Page)) => ⟨Cat.tab [(0, (.s (List.map c_api_Page p_l))), (3, (.b 3 0)), (5, (.o 29)), (6, (vb s1.1)), (7, (vi s1.2.1))], [(3, .box [(vi p_p.At), (.s (List.map cU8 p_p.Data))]), (29, .own 48 2 (List.map c_api_Page s1.2.2))]⟩) (ref04_lay_B1 p_l p_p) (s0 := (false, 0, [])) hv1 ((Wk.own0 (t := 5) (id := 29) (E := 48) (K := 2) rfl rfl).trans (Wk.tab ⟨Le.refl _, Le.refl _, Le.refl _, Le.refl _, Le.refl _, True.intro⟩ ⟨⟨_, rfl, .refl _⟩, ⟨_, rfl, .refl _⟩, True.intro⟩ rfl)) ?_
    intro s1 y1 hB1 hy1
    unfold ref04_lay_B1 at hB1
    refine Ok.seq ?_
    refine Ok.seq ?_
    refine Ok.region Try.tok ?_
    refine ⟨_, List.length_map _, fun _ => ?_⟩
    refine Ok.wk (Wk.tab (L := [(0, (.s (List.map c_api_Page p_l))), (3, (.b 3 0)), (5, (.o 29)), (6, (vb s1.1)), (7, (vi s1.2.1)), (11, (vb ((decide (s1.2.1 < (p_l.length : Int))))))]) (H' := [(3, .box [(vi p_p.At), (.s (List.map cU8 p_p.Data))]), (29, .own 48 2 (List.map c_api_Page s1.2.2))]) ⟨Le.refl _, Le.refl _, Le.refl _, Le.refl _, Le.refl _, Le.refl _, True.intro⟩ ⟨⟨_, rfl, .refl _⟩, ⟨_, rfl, .refl _⟩, True.intro⟩ rfl) ?_
    refine Ok.cond (d := 11) (b := (decide (s1.2.1 < (p_l.length : Int)))) rfl hB1 (fun hb hB1 => ?_) fun hb hB1 => ?_
    · refine Ok.skip ?_
      obtain ⟨v2, hv2, hB1⟩ := bindS hB1
      refine Ok.seqw ⟨Cat.tab [(0, (.s (List.map c_api_Page p_l))), (3, (.b 3 0)), (5, (.o 29)), (6, (vb v2.1)), (7, (vi s1.2.1))], [(3, .box [(vi p_p.At), (.s (List.map cU8 p_p.Data))]), (29, .own 48 2 (List.map c_api_Page v2.2))]⟩ ?_ ?_
      · refine Ok.block ?_
        obtain ⟨v3, hv3, hv2⟩ := bindS hv2
        refine Ok.seqw ⟨Cat.tab [(0, (.s (List.map c_api_Page p_l))), (3, (.b 3 0)), (5, (.o 29)), (6, (vb v3.1)), (7, (vi s1.2.1))], [(3, .box [(vi p_p.At), (.s (List.map cU8 p_p.Data))]), (29, .own 48 2 (List.map c_api_Page v3.2))]⟩ ?_ ?_
        · obtain ⟨v4, hv4, hv3⟩ := bindS hv3
          refine Ok.seqw ⟨Cat.tab [(0, (.s (List.map c_api_Page p_l))), (3, (.b 3 0)), (5, (.o 29)), (6, (vb s1.1)), (7, (vi s1.2.1)), (25, (vb v4))], [(3, .box [(vi p_p.At), (.s (List.map cU8 p_p.Data))]), (29, .own 48 2 (List.map c_api_Page s1.2.2))]⟩ ?_ ?_
          · refine Ok.draw (m := 12) (MD := ⟨[]⟩) (CH := ⟨[]⟩) Try.tok Try.mixed (by kernel_rfl) ?_
            refine ⟨_, rfl, ⟨_, rfl, ⟨_, rfl, ?_⟩⟩⟩
            obtain ⟨c1, hg1, hv4⟩ := bindS hv4
            refine Br.ite hg1 (fun hb hg1 => ?_) fun hb hg1 => ?_
            · obtain ⟨x1, hx1, hg1⟩ := bindS hg1
              refine ⟨_, rfl, ⟨_, rfl, ⟨_, ⟨_, idx_nat hx1, _, idx_row hx1, rfl⟩, ⟨_, rfl, ⟨_, ⟨_, rfl, rfl⟩, ⟨_, rfl, ⟨_, ⟨_, rfl, rfl⟩, ⟨_, rfl, ?_⟩⟩⟩⟩⟩⟩⟩⟩
              cases hg1
              refine ⟨_, rfl, ?_⟩
              refine ⟨True.intro, ?_⟩
              cases hv4
              exact Wk.tab ⟨Le.refl _, Le.refl _, Le.refl _, Le.refl _, Le.refl _, Le.refl _, True.intro⟩ ⟨⟨_, rfl, .refl _⟩, ⟨_, rfl, .refl _⟩, True.intro⟩ rfl
            · cases hg1
              refine ⟨_, rfl, ?_⟩
              refine ⟨True.intro, ?_⟩
              cases hv4
              exact Wk.tab ⟨Le.refl _, Le.refl _, Le.refl _, Le.refl _, Le.refl _, Le.refl _, True.intro⟩ ⟨⟨_, rfl, .refl _⟩, ⟨_, rfl, .refl _⟩, True.intro⟩ rfl
          refine Ok.cond (d := 25) (b := v4) rfl hv3 (fun hb hv3 => ?_) fun hb hv3 => ?_
          · refine Ok.seq ?_
            refine Ok.region Try.tok ?_
            obtain ⟨hc1, hv3⟩ := chk_some hv3
            refine ⟨_, rfl, Or.inl ⟨rowsLen_map (f := c_api_Page) (n := 2) (fun _ => rfl) ([p_p]), app_b2 (f := c_api_Page) (l := s1.2.2) (l' := ([p_p])) hc1, _, (List.map_append (f := c_api_Page) (l₁ := s1.2.2) (l₂ := ([p_p]))).symm, ?_⟩⟩
            refine Ok.wk (Wk.tab (L := [(0, (.s (List.map c_api_Page p_l))), (3, (.b 3 0)), (5, (.o 29)), (7, (vi s1.2.1))]) (H' := [(3, .box [(vi p_p.At), (.s (List.map cU8 p_p.Data))]), (29, .own 48 2 (List.map c_api_Page ((s1.2.2 ++ [p_p]))))]) ⟨Le.refl _, Le.refl _, Le.refl _, Le.refl _, True.intro⟩ ⟨⟨_, rfl, .refl _⟩, ⟨_, rfl, .refl _⟩, True.intro⟩ rfl) ?_
            refine Ok.region Try.tok ?_
            cases hv3
            exact Wk.tab ⟨Le.refl _, Le.refl _, Le.refl _, Le.refl _, Le.refl _, True.intro⟩ ⟨⟨_, rfl, .refl _⟩, ⟨_, rfl, .refl _⟩, True.intro⟩ rfl
          · refine Ok.skip ?_
            cases hv3
            exact Wk.tab ⟨Le.refl _, Le.refl _, Le.refl _, Le.refl _, Le.refl _, True.intro⟩ ⟨⟨_, rfl, .refl _⟩, ⟨_, rfl, .refl _⟩, True.intro⟩ rfl
        refine Ok.seq ?_
        refine Ok.draw (m := 8) (MD := ⟨[]⟩) (CH := ⟨[]⟩) Try.tok Try.mixed (by kernel_rfl) ?_
        obtain ⟨x2, hx2, hv2⟩ := bindS hv2
        refine ⟨_, rfl, ⟨_, rfl, ⟨_, ⟨_, idx_nat hx2, _, idx_row hx2, rfl⟩, ⟨_, rfl, ⟨_, ⟨_, rfl, rfl⟩, ⟨_, rfl, ⟨_, ⟨_, rfl, rfl⟩, ⟨_, rfl, ⟨True.intro, ?_⟩⟩⟩⟩⟩⟩⟩⟩⟩
        refine Ok.wk (Wk.tab (L := [(0, (.s (List.map c_api_Page p_l))), (3, (.b 3 0)), (5, (.o 29)), (6, (vb v3.1)), (7, (vi s1.2.1)), (37, (vb ((x2.At != p_p.At))))]) (H' := [(3, .box [(vi p_p.At), (.s (List.map cU8 p_p.Data))]), (29, .own 48 2 (List.map c_api_Page v3.2))]) ⟨Le.refl _, Le.refl _, Le.refl _, Le.refl _, Le.refl _, Le.refl _, True.intro⟩ ⟨⟨_, rfl, .refl _⟩, ⟨_, rfl, .refl _⟩, True.intro⟩ rfl) ?_
        refine Ok.cond (d := 37) (b := (x2.At != p_p.At)) rfl hv2 (fun hb hv2 => ?_) fun hb hv2 => ?_
        · refine Ok.region Try.tok ?_
          obtain ⟨x3, hx3, hv2⟩ := bindS hv2
          obtain ⟨hc2, hv2⟩ := chk_some hv2
          refine ⟨_, idx_nat hx3, _, idx_row hx3, ⟨_, rfl, Or.inl ⟨rowsLen_map (f := c_api_Page) (n := 2) (fun _ => rfl) ([x3]), app_b2 (f := c_api_Page) (l := v3.2) (l' := ([x3])) hc2, _, (List.map_append (f := c_api_Page) (l₁ := v3.2) (l₂ := ([x3]))).symm, ?_⟩⟩⟩
          cases hv2
          exact Wk.tab ⟨Le.refl _, Le.refl _, Le.refl _, Le.refl _, Le.refl _, True.intro⟩ ⟨⟨_, rfl, .refl _⟩, ⟨_, rfl, .refl _⟩, True.intro⟩ rfl
        · refine Ok.skip ?_
          cases hv2
          exact Wk.tab ⟨Le.refl _, Le.refl _, Le.refl _, Le.refl _, Le.refl _, True.intro⟩ ⟨⟨_, rfl, .refl _⟩, ⟨_, rfl, .refl _⟩, True.intro⟩ rfl
      refine Ok.region Try.tok ?_
      obtain ⟨hc3, hB1⟩ := chk_some hB1
      refine (Or.inl ⟨hc3, ?_⟩)
      exact ⟨_, (Option.some.inj hB1).symm, Wk.tab ⟨Le.refl _, Le.refl _, Le.refl _, Le.refl _, Le.refl _, True.intro⟩ ⟨⟨_, rfl, .refl _⟩, ⟨_, rfl, .refl _⟩, True.intro⟩ rfl⟩
    · refine Ok.exit ?_
      have hB1 := out_ret hB1 hy1
      cases hB1
      exact Wk.tab ⟨Le.refl _, Le.refl _, Le.refl _, True.intro⟩ ⟨⟨_, rfl, .refl _⟩, ⟨_, rfl, .refl _⟩, True.intro⟩ rfl
  obtain ⟨v5, hv5, h⟩ := bindS h
  refine Ok.seqw ⟨Cat.tab [(5, (.o 29))], [(29, .own 48 2 (List.map c_api_Page v5))]⟩ ?_ ?_
  · refine Ok.seq ?_
    refine Ok.region Try.tok ?_
    refine Ok.wk (Wk.tab (L := [(3, (.b 3 0)), (5, (.o 29)), (46, (vb ((!v1.1))))]) (H' := [(3, .box [(vi p_p.At), (.s (List.map cU8 p_p.Data))]), (29, .own 48 2 (List.map c_api_Page v1.2))]) ⟨Le.refl _, Le.refl _, Le.refl _, True.intro⟩ ⟨⟨_, rfl, .refl _⟩, ⟨_, rfl, .refl _⟩, True.intro⟩ rfl) ?_
    refine Ok.cond (d := 46) (b := (!v1.1)) rfl hv5 (fun hb hv5 => ?_) fun hb hv5 => ?_
    · refine Ok.region Try.tok ?_
      obtain ⟨hc4, hv5⟩ := chk_some hv5
      refine ⟨_, rfl, Or.inl ⟨rowsLen_map (f := c_api_Page) (n := 2) (fun _ => rfl) ([p_p]), app_b2 (f := c_api_Page) (l := v1.2) (l' := ([p_p])) hc4, _, (List.map_append (f := c_api_Page) (l₁ := v1.2) (l₂ := ([p_p]))).symm, ?_⟩⟩
      cases hv5
      exact Wk.tab ⟨Le.refl _, True.intro⟩ ⟨⟨_, rfl, .refl _⟩, True.intro⟩ rfl
    · refine Ok.skip ?_
      cases hv5
      exact Wk.tab ⟨Le.refl _, True.intro⟩ ⟨⟨_, rfl, .refl _⟩, True.intro⟩ rfl
  refine Ok.seq ?_
  refine Ok.region Try.tok ?_
  refine Ok.wk (Wk.tab (L := [(4, (.o 29))]) (H' := [(29, .own 48 2 (List.map c_api_Page v5))]) ⟨Le.refl _, True.intro⟩ ⟨⟨_, rfl, .refl _⟩, True.intro⟩ rfl) ?_
  refine Ok.ret ?_
  cases h
  exact (.inr ⟨_, rfl, rfl⟩)
theorem w_ref04_lay {p_l : List api_Page} {p_p : api_Page} {r : (List api_Page)} (h : ref04_lay p_l p_p = some r) : Pure Try.prog 43 [(.s (List.map c_api_Page p_l)), (.a [(vi p_p.At), (.s (List.map cU8 p_p.Data))])] (.s (List.map c_api_Page r)) := (wo_ref04_lay h).pure

theorem w_ref04_Sync {p_d : api_Disk} {r : api_Disk × Int} (h : ref04_Sync p_d = some r) : Pure Try.prog 30 [(.a [(.s (List.map c_api_Page p_d.Synced)), (.s (List.map c_api_Page p_d.Loose)), (vb p_d.Down)])] (.t [(.a [(.s (List.map c_api_Page r.1.Synced)), (.s (List.map c_api_Page r.1.Loose)), (vb r.1.Down)]), (vi r.2)]) := by
  refine pure_of_ok (n := 29) (c := (Try.f30.body.getD .skip)) Try.tok Try.func30 (by kernel_rfl) rfl rfl (Nat.le_of_ble_eq_true rfl) ?_
  unfold ref04_Sync at h
  refine Ok.wk (Wk.tab (L := [(0, (.a [(.s (List.map c_api_Page p_d.Synced)), (.s (List.map c_api_Page p_d.Loose)), (vb p_d.Down)]))]) (H' := []) ⟨Le.refl _, True.intro⟩ True.intro rfl) ?_
  refine Ok.seq ?_
  refine Ok.region Try.tok ?_
  refine Ok.wk (Wk.tab (L := [(1, (.b 1 0)), (2, (.b 2 0))]) (H' := [(1, .box [(.s (List.map c_api_Page p_d.Synced)), (.s (List.map c_api_Page p_d.Loose)), (vb p_d.Down)]), (2, .box [(.v (.slice none 0 0)), (.v (.slice none 0 0)), (vb false)])]) ⟨Le.refl _, Le.refl _, True.intro⟩ ⟨⟨_, rfl, .refl _⟩, ⟨_, rfl, .refl _⟩, True.intro⟩ rfl) ?_
  refine Ok.seq ?_
  refine Ok.seq ?_
  refine Ok.region Try.tok ?_
  refine ⟨_, rfl, ?_⟩
  refine Ok.wk (Wk.tab (L := [(1, (.b 1 0)), (2, (.b 2 0)), (7, (vb p_d.Down))]) (H' := [(1, .box [(.s (List.map c_api_Page p_d.Synced)), (.s (List.map c_api_Page p_d.Loose)), (vb p_d.Down)]), (2, .box [(.v (.slice none 0 0)), (.v (.slice none 0 0)), (vb false)])]) ⟨Le.refl _, Le.refl _, Le.refl _, True.intro⟩ ⟨⟨_, rfl, .refl _⟩, ⟨_, rfl, .refl _⟩, True.intro⟩ rfl) ?_
  refine Ok.cond (d := 7) (b := p_d.Down) rfl h (fun hb h => ?_) fun hb h => ?_
  · refine Ok.seq ?_
    refine Ok.region Try.tok ?_
    refine ⟨_, rfl, ⟨_, rfl, ?_⟩⟩
    refine Ok.wk (Wk.tab (L := [(2, (.b 2 0)), (3, (vi (40)))]) (H' := [(2, .box [(.s (List.map c_api_Page p_d.Synced)), (.s (List.map c_api_Page p_d.Loose)), (vb p_d.Down)])]) ⟨Le.refl _, Le.refl _, True.intro⟩ ⟨⟨_, rfl, .refl _⟩, True.intro⟩ rfl) ?_
    refine Ok.ret ?_
    cases h
    exact ⟨_, rfl, (Fz.t (.cons (Fz.imm rfl) (.cons Fz.v .nil)))⟩
  · refine Ok.skip ?_
    refine Ok.seq ?_
    refine Ok.region Try.tok ?_
    refine ⟨_, rfl, ⟨_, rfl, ?_⟩⟩
    refine Ok.wk (Wk.tab (L := [(1, (.b 1 0)), (2, (.b 2 0)), (4, (.b 4 0))]) (H' := [(1, .box [(.s (List.map c_api_Page p_d.Synced)), (.s (List.map c_api_Page p_d.Loose)), (vb p_d.Down)]), (2, .box [(.v (.slice none 0 0)), (.v (.slice none 0 0)), (vb false)]), (4, .box [(.s (List.map c_api_Page p_d.Synced)), (.v (.slice none 0 0)), (vb false)])]) ⟨Le.refl _, Le.refl _, Le.refl _, True.intro⟩ ⟨⟨_, rfl, .refl _⟩, ⟨_, rfl, .refl _⟩, ⟨_, rfl, .refl _⟩, True.intro⟩ rfl) ?_
    obtain ⟨v1, hv1, h⟩ := bindS h
    refine Ok.seqw ⟨Cat.tab [(2, (.b 2 0)), (4, (.b 4 0))], [(2, .box [(.v (.slice none 0 0)), (.v (.slice none 0 0)), (vb false)]), (4, .box [(.s (List.map c_api_Page v1)), (.v (.slice none 0 0)), (vb false)])]⟩ ?_ ?_
    · refine Ok.seq ?_
      refine Ok.region Try.tok ?_
      refine Ok.wk (Wk.tab (L := [(1, (.b 1 0)), (2, (.b 2 0)), (4, (.b 4 0)), (5, (vi (0)))]) (H' := [(1, .box [(.s (List.map c_api_Page p_d.Synced)), (.s (List.map c_api_Page p_d.Loose)), (vb p_d.Down)]), (2, .box [(.v (.slice none 0 0)), (.v (.slice none 0 0)), (vb false)]), (4, .box [(.s (List.map c_api_Page p_d.Synced)), (.v (.slice none 0 0)), (vb false)])]) ⟨Le.refl _, Le.refl _, Le.refl _, Le.refl _, True.intro⟩ ⟨⟨_, rfl, .refl _⟩, ⟨_, rfl, .refl _⟩, ⟨_, rfl, .refl _⟩, True.intro⟩ rfl) ?_
      refine Ok.block ?_
      refine Ok.loop (fun (s1 : Int × (List api_Page)) => ⟨Cat.tab [(1, (.b 1 0)), (2, (.b 2 0)), (4, (.b 4 0)), (5, (vi s1.1))], [(1, .box [(.s (List.map c_api_Page p_d.Synced)), (.s (List.map c_api_Page p_d.Loose)), (vb p_d.Down)]), (2, .box [(.v (.slice none 0 0)), (.v (.slice none 0 0)), (vb false)]), (4, .box [(.s (List.map c_api_Page s1.2)), (.v (.slice none 0 0)), (vb false)])]⟩) (ref04_Sync_B1 p_d) (s0 := (0, p_d.Synced)) hv1 (Wk.tab ⟨Le.refl _, Le.refl _, Le.refl _, Le.refl _, True.intro⟩ ⟨⟨_, rfl, .refl _⟩, ⟨_, rfl, .refl _⟩, ⟨_, rfl, .refl _⟩, True.intro⟩ rfl) ?_
      intro s1 y1 hB1 hy1
      unfold ref04_Sync_B1 at hB1
      refine Ok.seq ?_
      refine Ok.seq ?_
      refine Ok.region Try.tok ?_
      refine ⟨_, rfl, ⟨_, List.length_map _, fun _ => ?_⟩⟩
      refine Ok.wk (Wk.tab (L := [(1, (.b 1 0)), (2, (.b 2 0)), (4, (.b 4 0)), (5, (vi s1.1)), (16, (vb ((decide (s1.1 < (p_d.Loose.length : Int))))))]) (H' := [(1, .box [(.s (List.map c_api_Page p_d.Synced)), (.s (List.map c_api_Page p_d.Loose)), (vb p_d.Down)]), (2, .box [(.v (.slice none 0 0)), (.v (.slice none 0 0)), (vb false)]), (4, .box [(.s (List.map c_api_Page s1.2)), (.v (.slice none 0 0)), (vb false)])]) ⟨Le.refl _, Le.refl _, Le.refl _, Le.refl _, Le.refl _, True.intro⟩ ⟨⟨_, rfl, .refl _⟩, ⟨_, rfl, .refl _⟩, ⟨_, rfl, .refl _⟩, True.intro⟩ rfl) ?_
      refine Ok.cond (d := 16) (b := (decide (s1.1 < (p_d.Loose.length : Int)))) rfl hB1 (fun hb hB1 => ?_) fun hb hB1 => ?_
      · refine Ok.skip ?_
        refine Ok.seq ?_
        refine Ok.block ?_
        refine Ok.draw (m := 9) (MD := ⟨[]⟩) (CH := ⟨[]⟩) Try.tok Try.mixed (by kernel_rfl) ?_
        obtain ⟨x1, hx1, hB1⟩ := bindS hB1
        obtain ⟨x2, hx2, hB1⟩ := bindS hB1
        refine ⟨_, rfl, ⟨_, ⟨_, rfl, rfl⟩, ⟨_, rfl, ⟨_, ⟨_, rfl, rfl⟩, ⟨_, rfl, ⟨_, ⟨_, idx_nat hx1, _, idx_row hx1, rfl⟩, ⟨_, ⟨_, rfl, rfl⟩, ⟨_, ⟨_, .of_pure (w_ref04_lay hx2) (LeL.refl _), rfl⟩, ⟨_, rfl, ⟨True.intro, ⟨_, rfl, ?_⟩⟩⟩⟩⟩⟩⟩⟩⟩⟩⟩
        refine Ok.wk (Wk.tab (L := [(1, (.b 1 0)), (2, (.b 2 0)), (4, (.b 4 0)), (5, (vi s1.1))]) (H' := [(1, .box [(.s (List.map c_api_Page p_d.Synced)), (.s (List.map c_api_Page p_d.Loose)), (vb p_d.Down)]), (2, .box [(.v (.slice none 0 0)), (.v (.slice none 0 0)), (vb false)]), (4, .box [(.s (List.map c_api_Page x2)), (.v (.slice none 0 0)), (vb false)])]) ⟨Le.refl _, Le.refl _, Le.refl _, Le.refl _, True.intro⟩ ⟨⟨_, rfl, .refl _⟩, ⟨_, rfl, .refl _⟩, ⟨_, rfl, .refl _⟩, True.intro⟩ rfl) ?_
        refine Ok.region Try.tok ?_
        obtain ⟨hc1, hB1⟩ := chk_some hB1
        refine (Or.inl ⟨hc1, ?_⟩)
        exact ⟨_, (Option.some.inj hB1).symm, Wk.tab ⟨Le.refl _, Le.refl _, Le.refl _, Le.refl _, True.intro⟩ ⟨⟨_, rfl, .refl _⟩, ⟨_, rfl, .refl _⟩, ⟨_, rfl, .refl _⟩, True.intro⟩ rfl⟩
      · refine Ok.exit ?_
        have hB1 := out_ret hB1 hy1
        cases hB1
        exact Wk.tab ⟨Le.refl _, Le.refl _, True.intro⟩ ⟨⟨_, rfl, .refl _⟩, ⟨_, rfl, .refl _⟩, True.intro⟩ rfl
    refine Ok.seq ?_
    refine Ok.region Try.tok ?_
    refine ⟨_, rfl, ⟨_, rfl, ?_⟩⟩
    refine Ok.wk (Wk.tab (L := [(2, (.b 2 0)), (3, (vi (0)))]) (H' := [(2, .box [(.s (List.map c_api_Page v1)), (.v (.slice none 0 0)), (vb false)])]) ⟨Le.refl _, Le.refl _, True.intro⟩ ⟨⟨_, rfl, .refl _⟩, True.intro⟩ rfl) ?_
    refine Ok.ret ?_
    cases h
    exact ⟨_, rfl, (Fz.t (.cons (Fz.a (.cons Fz.s (.cons Fz.nil (.cons Fz.v .nil)))) (.cons Fz.v .nil)))⟩

theorem w_ref04_Crash {p_d : api_Disk} {p_keep : Int} {r : api_Disk} (h : ref04_Crash p_d p_keep = some r) : Pure Try.prog 31 [(.a [(.s (List.map c_api_Page p_d.Synced)), (.s (List.map c_api_Page p_d.Loose)), (vb p_d.Down)]), (vi p_keep)] (.a [(.s (List.map c_api_Page r.Synced)), (.s (List.map c_api_Page r.Loose)), (vb r.Down)]) := by
  refine pure_of_ok (n := 32) (c := (Try.f31.body.getD .skip)) Try.tok Try.func31 (by kernel_rfl) rfl rfl (Nat.le_of_ble_eq_true rfl) ?_
  unfold ref04_Crash at h
  refine Ok.wk (Wk.tab (L := [(0, (.a [(.s (List.map c_api_Page p_d.Synced)), (.s (List.map c_api_Page p_d.Loose)), (vb p_d.Down)])), (1, (vi p_keep))]) (H' := []) ⟨Le.refl _, Le.refl _, True.intro⟩ True.intro rfl) ?_
  refine Ok.seq ?_
  refine Ok.region Try.tok ?_
  refine Ok.wk (Wk.tab (L := [(1, (vi p_keep)), (2, (.b 2 0)), (4, (.b 4 0))]) (H' := [(2, .box [(.s (List.map c_api_Page p_d.Synced)), (.s (List.map c_api_Page p_d.Loose)), (vb p_d.Down)]), (4, .box [(.v (.slice none 0 0)), (.v (.slice none 0 0)), (vb false)])]) ⟨Le.refl _, Le.refl _, Le.refl _, True.intro⟩ ⟨⟨_, rfl, .refl _⟩, ⟨_, rfl, .refl _⟩, True.intro⟩ rfl) ?_
  refine Ok.seq ?_
  refine Ok.region Try.tok ?_
  refine ⟨_, rfl, ⟨_, rfl, ?_⟩⟩
  refine Ok.wk (Wk.tab (L := [(1, (vi p_keep)), (2, (.b 2 0)), (4, (.b 4 0)), (5, (.b 5 0))]) (H' := [(2, .box [(.s (List.map c_api_Page p_d.Synced)), (.s (List.map c_api_Page p_d.Loose)), (vb p_d.Down)]), (4, .box [(.v (.slice none 0 0)), (.v (.slice none 0 0)), (vb false)]), (5, .box [(.s (List.map c_api_Page p_d.Synced)), (.v (.slice none 0 0)), (vb true)])]) ⟨Le.refl _, Le.refl _, Le.refl _, Le.refl _, True.intro⟩ ⟨⟨_, rfl, .refl _⟩, ⟨_, rfl, .refl _⟩, ⟨_, rfl, .refl _⟩, True.intro⟩ rfl) ?_
  obtain ⟨v1, hv1, h⟩ := bindS h
  refine Ok.seqw ⟨Cat.tab [(4, (.b 4 0)), (5, (.b 5 0))], [(4, .box [(.v (.slice none 0 0)), (.v (.slice none 0 0)), (vb false)]), (5, .box [(.s (List.map c_api_Page v1)), (.v (.slice none 0 0)), (vb true)])]⟩ ?_ ?_
  · refine Ok.seq ?_
    refine Ok.region Try.tok ?_
    refine Ok.wk (Wk.tab (L := [(1, (vi p_keep)), (2, (.b 2 0)), (4, (.b 4 0)), (5, (.b 5 0)), (6, (vi (0)))]) (H' := [(2, .box [(.s (List.map c_api_Page p_d.Synced)), (.s (List.map c_api_Page p_d.Loose)), (vb p_d.Down)]), (4, .box [(.v (.slice none 0 0)), (.v (.slice none 0 0)), (vb false)]), (5, .box [(.s (List.map c_api_Page p_d.Synced)), (.v (.slice none 0 0)), (vb true)])]) ⟨Le.refl _, Le.refl _, Le.refl _, Le.refl _, Le.refl _, True.intro⟩ ⟨⟨_, rfl, .refl _⟩, ⟨_, rfl, .refl _⟩, ⟨_, rfl, .refl _⟩, True.intro⟩ rfl) ?_
    refine Ok.block ?_
    refine Ok.loop (fun (s1 : Int × (List api_Page)) => ⟨Cat.tab [(1, (vi p_keep)), (2, (.b 2 0)), (4, (.b 4 0)), (5, (.b 5 0)), (6, (vi s1.1))], [(2, .box [(.s (List.map c_api_Page p_d.Synced)), (.s (List.map c_api_Page p_d.Loose)), (vb p_d.Down)]), (4, .box [(.v (.slice none 0 0)), (.v (.slice none 0 0)), (vb false)]), (5, .box [(.s (List.map c_api_Page s1.2)), (.v (.slice none 0 0)), (vb true)])]⟩) (ref04_Crash_B1 p_d p_keep) (s0 := (0, p_d.Synced)) hv1 (Wk.tab ⟨Le.refl _, Le.refl _, Le.refl _, Le.refl _, Le.refl _, True.intro⟩ ⟨⟨_, rfl, .refl _⟩, ⟨_, rfl, .refl _⟩, ⟨_, rfl, .refl _⟩, True.intro⟩ rfl) ?_
    intro s1 y1 hB1 hy1
    unfold ref04_Crash_B1 at hB1
    refine Ok.seq ?_
    obtain ⟨v2, hv2, hB1⟩ := bindS hB1
    refine Ok.seqw ⟨Cat.tab [(1, (vi p_keep)), (2, (.b 2 0)), (4, (.b 4 0)), (5, (.b 5 0)), (6, (vi s1.1)), (19, (vb v2))], [(2, .box [(.s (List.map c_api_Page p_d.Synced)), (.s (List.map c_api_Page p_d.Loose)), (vb p_d.Down)]), (4, .box [(.v (.slice none 0 0)), (.v (.slice none 0 0)), (vb false)]), (5, .box [(.s (List.map c_api_Page s1.2)), (.v (.slice none 0 0)), (vb true)])]⟩ ?_ ?_
    · refine Ok.region Try.tok ?_
      refine ⟨_, rfl, ⟨_, List.length_map _, fun _ => ?_⟩⟩
      obtain ⟨c1, hg1, hv2⟩ := bindS hv2
      refine Br.ite hg1 (fun hb hg1 => ?_) fun hb hg1 => ?_
      · cases hg1
        cases hv2
        exact Wk.tab ⟨Le.refl _, Le.refl _, Le.refl _, Le.refl _, Le.refl _, Le.refl _, True.intro⟩ ⟨⟨_, rfl, .refl _⟩, ⟨_, rfl, .refl _⟩, ⟨_, rfl, .refl _⟩, True.intro⟩ rfl
      · cases hg1
        cases hv2
        exact Wk.tab ⟨Le.refl _, Le.refl _, Le.refl _, Le.refl _, Le.refl _, Le.refl _, True.intro⟩ ⟨⟨_, rfl, .refl _⟩, ⟨_, rfl, .refl _⟩, ⟨_, rfl, .refl _⟩, True.intro⟩ rfl
    refine Ok.cond (d := 19) (b := v2) rfl hB1 (fun hb hB1 => ?_) fun hb hB1 => ?_
    · refine Ok.skip ?_
      refine Ok.seq ?_
      refine Ok.block ?_
      refine Ok.draw (m := 9) (MD := ⟨[]⟩) (CH := ⟨[]⟩) Try.tok Try.mixed (by kernel_rfl) ?_
      obtain ⟨x1, hx1, hB1⟩ := bindS hB1
      obtain ⟨x2, hx2, hB1⟩ := bindS hB1
      refine ⟨_, rfl, ⟨_, ⟨_, rfl, rfl⟩, ⟨_, rfl, ⟨_, ⟨_, rfl, rfl⟩, ⟨_, rfl, ⟨_, ⟨_, idx_nat hx1, _, idx_row hx1, rfl⟩, ⟨_, ⟨_, rfl, rfl⟩, ⟨_, ⟨_, .of_pure (w_ref04_lay hx2) (LeL.refl _), rfl⟩, ⟨_, rfl, ⟨True.intro, ⟨_, rfl, ?_⟩⟩⟩⟩⟩⟩⟩⟩⟩⟩⟩
      refine Ok.wk (Wk.tab (L := [(1, (vi p_keep)), (2, (.b 2 0)), (4, (.b 4 0)), (5, (.b 5 0)), (6, (vi s1.1))]) (H' := [(2, .box [(.s (List.map c_api_Page p_d.Synced)), (.s (List.map c_api_Page p_d.Loose)), (vb p_d.Down)]), (4, .box [(.v (.slice none 0 0)), (.v (.slice none 0 0)), (vb false)]), (5, .box [(.s (List.map c_api_Page x2)), (.v (.slice none 0 0)), (vb true)])]) ⟨Le.refl _, Le.refl _, Le.refl _, Le.refl _, Le.refl _, True.intro⟩ ⟨⟨_, rfl, .refl _⟩, ⟨_, rfl, .refl _⟩, ⟨_, rfl, .refl _⟩, True.intro⟩ rfl) ?_
      refine Ok.region Try.tok ?_
      obtain ⟨hc1, hB1⟩ := chk_some hB1
      refine (Or.inl ⟨hc1, ?_⟩)
      exact ⟨_, (Option.some.inj hB1).symm, Wk.tab ⟨Le.refl _, Le.refl _, Le.refl _, Le.refl _, Le.refl _, True.intro⟩ ⟨⟨_, rfl, .refl _⟩, ⟨_, rfl, .refl _⟩, ⟨_, rfl, .refl _⟩, True.intro⟩ rfl⟩
    · refine Ok.exit ?_
      have hB1 := out_ret hB1 hy1
      cases hB1
      exact Wk.tab ⟨Le.refl _, Le.refl _, True.intro⟩ ⟨⟨_, rfl, .refl _⟩, ⟨_, rfl, .refl _⟩, True.intro⟩ rfl
  refine Ok.seq ?_
  refine Ok.region Try.tok ?_
  refine ⟨_, rfl, ⟨_, rfl, ?_⟩⟩
  refine Ok.wk (Wk.tab (L := [(4, (.b 4 0))]) (H' := [(4, .box [(.s (List.map c_api_Page v1)), (.v (.slice none 0 0)), (vb true)])]) ⟨Le.refl _, True.intro⟩ ⟨⟨_, rfl, .refl _⟩, True.intro⟩ rfl) ?_
  refine Ok.ret ?_
  cases h
  exact ⟨_, rfl, (Fz.a (.cons Fz.s (.cons Fz.nil (.cons Fz.v .nil))))⟩

theorem w_ref04_flip {p_b : UInt8} {p_bit : Int} {r : UInt8} (h : ref04_flip p_b p_bit = some r) : Pure Try.prog 44 [(vu p_b), (vi p_bit)] (vu r) := by
  refine pure_of_ok (n := 30) (c := (Try.f44.body.getD .skip)) Try.tok Try.func44 (by kernel_rfl) rfl rfl (Nat.le_of_ble_eq_true rfl) ?_
  unfold ref04_flip at h
  refine Ok.wk (Wk.tab (L := [(0, (vu p_b)), (1, (vi p_bit))]) (H' := []) ⟨Le.refl _, Le.refl _, True.intro⟩ True.intro rfl) ?_
  refine Ok.seq ?_
  refine Ok.region Try.tok ?_
  refine Ok.wk (Wk.tab (L := [(0, (vu p_b)), (1, (vi p_bit))]) (H' := []) ⟨Le.refl _, Le.refl _, True.intro⟩ True.intro rfl) ?_
  refine Ok.seq ?_
  refine Ok.region Try.tok ?_
  refine ⟨_, wrap_of_u8 (k := .i64) (by decide) _, ?_⟩
  refine Ok.wk (Wk.tab (L := [(1, (vi p_bit)), (5, (vi ((p_b.toNat : Int))))]) (H' := []) ⟨Le.refl _, Le.refl _, True.intro⟩ True.intro rfl) ?_
  refine Ok.seq ?_
  refine Ok.region Try.tok ?_
  refine Ok.wk (Wk.tab (L := [(1, (vi p_bit)), (5, (vi ((p_b.toNat : Int)))), (6, (vi (1)))]) (H' := []) ⟨Le.refl _, Le.refl _, Le.refl _, True.intro⟩ True.intro rfl) ?_
  obtain ⟨v1, hv1, h⟩ := bindS h
  refine Ok.seqw ⟨Cat.tab [(5, (vi ((p_b.toNat : Int)))), (6, (vi v1))], []⟩ ?_ ?_
  · refine Ok.seq ?_
    refine Ok.region Try.tok ?_
    refine Ok.wk (Wk.tab (L := [(1, (vi p_bit)), (5, (vi ((p_b.toNat : Int)))), (6, (vi (1))), (7, (vi (0)))]) (H' := []) ⟨Le.refl _, Le.refl _, Le.refl _, Le.refl _, True.intro⟩ True.intro rfl) ?_
    refine Ok.block ?_
    refine Ok.loop (fun (s1 : Int × Int) => ⟨Cat.tab [(1, (vi p_bit)), (5, (vi ((p_b.toNat : Int)))), (6, (vi s1.1)), (7, (vi s1.2))], []⟩) (ref04_flip_B1 p_bit) (s0 := (1, 0)) hv1 (Wk.tab ⟨Le.refl _, Le.refl _, Le.refl _, Le.refl _, True.intro⟩ True.intro rfl) ?_
    intro s1 y1 hB1 hy1
    unfold ref04_flip_B1 at hB1
    refine Ok.seq ?_
    refine Ok.seq ?_
    refine Ok.region Try.tok ?_
    refine Ok.wk (Wk.tab (L := [(1, (vi p_bit)), (5, (vi ((p_b.toNat : Int)))), (6, (vi s1.1)), (7, (vi s1.2)), (12, (vb ((decide (s1.2 < p_bit)))))]) (H' := []) ⟨Le.refl _, Le.refl _, Le.refl _, Le.refl _, Le.refl _, True.intro⟩ True.intro rfl) ?_
    refine Ok.cond (d := 12) (b := (decide (s1.2 < p_bit))) rfl hB1 (fun hb hB1 => ?_) fun hb hB1 => ?_
    · refine Ok.skip ?_
      refine Ok.seq ?_
      refine Ok.block ?_
      refine Ok.region Try.tok ?_
      obtain ⟨hc1, hB1⟩ := chk_some hB1
      refine (Or.inl ⟨hc1, ?_⟩)
      refine Ok.wk (Wk.tab (L := [(1, (vi p_bit)), (5, (vi ((p_b.toNat : Int)))), (6, (vi ((2 * s1.1)))), (7, (vi s1.2))]) (H' := []) ⟨Le.refl _, Le.refl _, Le.refl _, Le.refl _, True.intro⟩ True.intro rfl) ?_
      refine Ok.region Try.tok ?_
      obtain ⟨hc2, hB1⟩ := chk_some hB1
      refine (Or.inl ⟨hc2, ?_⟩)
      exact ⟨_, (Option.some.inj hB1).symm, Wk.tab ⟨Le.refl _, Le.refl _, Le.refl _, Le.refl _, True.intro⟩ True.intro rfl⟩
    · refine Ok.exit ?_
      have hB1 := out_ret hB1 hy1
      cases hB1
      exact Wk.tab ⟨Le.refl _, Le.refl _, True.intro⟩ True.intro rfl
  refine Ok.seq ?_
  refine Ok.seq ?_
  refine Ok.region Try.tok ?_
  obtain ⟨hc3, h⟩ := chk_some h
  refine ⟨hc3, _, rfl, ⟨(by decide), _, rfl, ?_⟩⟩
  refine Ok.wk (Wk.tab (L := [(5, (vi ((p_b.toNat : Int)))), (6, (vi v1)), (21, (vb (((Int.tmod ((quoK .i64 ((p_b.toNat : Int)) v1)) (2)) == 1))))]) (H' := []) ⟨Le.refl _, Le.refl _, Le.refl _, True.intro⟩ True.intro rfl) ?_
  refine Ok.cond (d := 21) (b := ((Int.tmod ((quoK .i64 ((p_b.toNat : Int)) v1)) (2)) == 1)) rfl h (fun hb h => ?_) fun hb h => ?_
  · refine Ok.seq ?_
    refine Ok.region Try.tok ?_
    obtain ⟨hc4, h⟩ := chk_some h
    refine (Or.inl ⟨hc4, ⟨_, (toU8_wrap _), ?_⟩⟩)
    refine Ok.wk (Wk.tab (L := [(4, (vu ((toU8 (((p_b.toNat : Int) - v1))))))]) (H' := []) ⟨Le.refl _, True.intro⟩ True.intro rfl) ?_
    refine Ok.ret ?_
    cases h
    exact Fz.v
  · refine Ok.skip ?_
    refine Ok.seq ?_
    refine Ok.region Try.tok ?_
    obtain ⟨hc5, h⟩ := chk_some h
    refine (Or.inl ⟨hc5, ⟨_, (toU8_wrap _), ?_⟩⟩)
    refine Ok.wk (Wk.tab (L := [(4, (vu ((toU8 (((p_b.toNat : Int) + v1))))))]) (H' := []) ⟨Le.refl _, True.intro⟩ True.intro rfl) ?_
    refine Ok.ret ?_
    cases h
    exact Fz.v

theorem w_ref04_Rot {p_d : api_Disk} {p_at : Int} {p_bit : Int} {r : api_Disk} (h : ref04_Rot p_d p_at p_bit = some r) : Pure Try.prog 32 [(.a [(.s (List.map c_api_Page p_d.Synced)), (.s (List.map c_api_Page p_d.Loose)), (vb p_d.Down)]), (vi p_at), (vi p_bit)] (.a [(.s (List.map c_api_Page r.Synced)), (.s (List.map c_api_Page r.Loose)), (vb r.Down)]) := by
  refine pure_of_ok (n := 76) (c := (Try.f32.body.getD .skip)) Try.tok Try.func32 (by kernel_rfl) rfl rfl (Nat.le_of_ble_eq_true rfl) ?_
  unfold ref04_Rot at h
  refine Ok.wk (Wk.tab (L := [(0, (.a [(.s (List.map c_api_Page p_d.Synced)), (.s (List.map c_api_Page p_d.Loose)), (vb p_d.Down)])), (1, (vi p_at)), (2, (vi p_bit))]) (H' := []) ⟨Le.refl _, Le.refl _, Le.refl _, True.intro⟩ True.intro rfl) ?_
  refine Ok.seq ?_
  refine Ok.region Try.tok ?_
  refine Ok.wk (Wk.tab (L := [(1, (vi p_at)), (2, (vi p_bit)), (3, (.b 3 0)), (6, (.b 6 0))]) (H' := [(3, .box [(.s (List.map c_api_Page p_d.Synced)), (.s (List.map c_api_Page p_d.Loose)), (vb p_d.Down)]), (6, .box [(.v (.slice none 0 0)), (.v (.slice none 0 0)), (vb false)])]) ⟨Le.refl _, Le.refl _, Le.refl _, Le.refl _, True.intro⟩ ⟨⟨_, rfl, .refl _⟩, ⟨_, rfl, .refl _⟩, True.intro⟩ rfl) ?_
  refine Ok.seq ?_
  refine Ok.region Try.tok ?_
  refine ⟨_, rfl, ⟨_, rfl, ⟨_, rfl, ?_⟩⟩⟩
  refine Ok.wk (Wk.tab (L := [(1, (vi p_at)), (2, (vi p_bit)), (3, (.b 3 0)), (6, (.b 6 0)), (7, (.b 7 0))]) (H' := [(3, .box [(.s (List.map c_api_Page p_d.Synced)), (.s (List.map c_api_Page p_d.Loose)), (vb p_d.Down)]), (6, .box [(.v (.slice none 0 0)), (.v (.slice none 0 0)), (vb false)]), (7, .box [(.v (.slice none 0 0)), (.s (List.map c_api_Page p_d.Loose)), (vb p_d.Down)])]) ⟨Le.refl _, Le.refl _, Le.refl _, Le.refl _, Le.refl _, True.intro⟩ ⟨⟨_, rfl, .refl _⟩, ⟨_, rfl, .refl _⟩, ⟨_, rfl, .refl _⟩, True.intro⟩ rfl) ?_
  obtain ⟨v1, hv1, h⟩ := bindS h
  refine Ok.seqw ⟨Cat.tab [(6, (.b 6 0)), (7, (.b 7 0))], [(6, .box [(.v (.slice none 0 0)), (.v (.slice none 0 0)), (vb false)]), (7, .box [(.o 73), (.s (List.map c_api_Page p_d.Loose)), (vb p_d.Down)]), (73, .own 48 2 (List.map c_api_Page v1))]⟩ ?_ ?_
  · refine Ok.seq ?_
    refine Ok.region Try.tok ?_
    refine Ok.wk (Wk.tab (L := [(1, (vi p_at)), (2, (vi p_bit)), (3, (.b 3 0)), (6, (.b 6 0)), (7, (.b 7 0)), (8, (vi (0)))]) (H' := [(3, .box [(.s (List.map c_api_Page p_d.Synced)), (.s (List.map c_api_Page p_d.Loose)), (vb p_d.Down)]), (6, .box [(.v (.slice none 0 0)), (.v (.slice none 0 0)), (vb false)]), (7, .box [(.v (.slice none 0 0)), (.s (List.map c_api_Page p_d.Loose)), (vb p_d.Down)])]) ⟨Le.refl _, Le.refl _, Le.refl _, Le.refl _, Le.refl _, Le.refl _, True.intro⟩ ⟨⟨_, rfl, .refl _⟩, ⟨_, rfl, .refl _⟩, ⟨_, rfl, .refl _⟩, True.intro⟩ rfl) ?_
    refine Ok.block ?_
    refine Ok.loop (fun (s1 : Int × (List api_Page)) => ⟨Cat.tab [(1, (vi p_at)), (2, (vi p_bit)), (3, (.b 3 0)), (6, (.b 6 0)), (7, (.b 7 0)), (8, (vi s1.1))], [(3, .box [(.s (List.map c_api_Page p_d.Synced)), (.s (List.map c_api_Page p_d.Loose)), (vb p_d.Down)]), (6, .box [(.v (.slice none 0 0)), (.v (.slice none 0 0)), (vb false)]), (7, .box [(.o 73), (.s (List.map c_api_Page p_d.Loose)), (vb p_d.Down)]), (73, .own 48 2 (List.map c_api_Page s1.2))]⟩) (ref04_Rot_B1 p_d p_at p_bit) (s0 := (0, [])) hv1 ((Wk.ownb (b := 7) (q := 0) (id := 73) (E := 48) (K := 2) rfl rfl rfl).trans (Wk.tab ⟨Le.refl _, Le.refl _, Le.refl _, Le.refl _, Le.refl _, Le.refl _, True.intro⟩ ⟨⟨_, rfl, .refl _⟩, ⟨_, rfl, .refl _⟩, ⟨_, rfl, .refl _⟩, ⟨_, rfl, .refl _⟩, True.intro⟩ rfl)) ?_
    intro s1 y1 hB1 hy1
    unfold ref04_Rot_B1 at hB1
    refine Ok.seq ?_
    refine Ok.seq ?_
    refine Ok.region Try.tok ?_
    refine ⟨_, rfl, ⟨_, List.length_map _, fun _ => ?_⟩⟩
    refine Ok.wk (Wk.tab (L := [(1, (vi p_at)), (2, (vi p_bit)), (3, (.b 3 0)), (6, (.b 6 0)), (7, (.b 7 0)), (8, (vi s1.1)), (19, (vb ((decide (s1.1 < (p_d.Synced.length : Int))))))]) (H' := [(3, .box [(.s (List.map c_api_Page p_d.Synced)), (.s (List.map c_api_Page p_d.Loose)), (vb p_d.Down)]), (6, .box [(.v (.slice none 0 0)), (.v (.slice none 0 0)), (vb false)]), (7, .box [(.o 73), (.s (List.map c_api_Page p_d.Loose)), (vb p_d.Down)]), (73, .own 48 2 (List.map c_api_Page s1.2))]) ⟨Le.refl _, Le.refl _, Le.refl _, Le.refl _, Le.refl _, Le.refl _, Le.refl _, True.intro⟩ ⟨⟨_, rfl, .refl _⟩, ⟨_, rfl, .refl _⟩, ⟨_, rfl, .refl _⟩, ⟨_, rfl, .refl _⟩, True.intro⟩ rfl) ?_
    refine Ok.cond (d := 19) (b := (decide (s1.1 < (p_d.Synced.length : Int)))) rfl hB1 (fun hb hB1 => ?_) fun hb hB1 => ?_
    · refine Ok.skip ?_
      refine Ok.seq ?_
      refine Ok.block ?_
      refine Ok.seq ?_
      refine Ok.region Try.tok ?_
      obtain ⟨x1, hx1, hB1⟩ := bindS hB1
      refine ⟨_, rfl, ⟨_, idx_nat hx1, _, idx_row hx1, ⟨_, rfl, ⟨_, rfl, ?_⟩⟩⟩⟩
      refine Ok.wk (Wk.tab (L := [(1, (vi p_at)), (2, (vi p_bit)), (3, (.b 3 0)), (6, (.b 6 0)), (7, (.b 7 0)), (8, (vi s1.1)), (9, (.b 9 0))]) (H' := [(3, .box [(.s (List.map c_api_Page p_d.Synced)), (.s (List.map c_api_Page p_d.Loose)), (vb p_d.Down)]), (6, .box [(.v (.slice none 0 0)), (.v (.slice none 0 0)), (vb false)]), (7, .box [(.o 73), (.s (List.map c_api_Page p_d.Loose)), (vb p_d.Down)]), (73, .own 48 2 (List.map c_api_Page s1.2)), (9, .box [(vi x1.At), (.v (.slice none 0 0))])]) ⟨Le.refl _, Le.refl _, Le.refl _, Le.refl _, Le.refl _, Le.refl _, Le.refl _, True.intro⟩ ⟨⟨_, rfl, .refl _⟩, ⟨_, rfl, .refl _⟩, ⟨_, rfl, .refl _⟩, ⟨_, rfl, .refl _⟩, ⟨_, rfl, .refl _⟩, True.intro⟩ rfl) ?_
      refine Ok.seq ?_
      refine Ok.draw (m := 8) (MD := ⟨[]⟩) (CH := ⟨[]⟩) Try.tok Try.mixed (by kernel_rfl) ?_
      obtain ⟨x2, hx2, hB1⟩ := bindS hB1
      obtain ⟨hc1, hB1⟩ := chk_some hB1
      refine ⟨_, rfl, ⟨_, ⟨_, rfl, rfl⟩, ⟨_, rfl, ⟨_, ⟨_, rfl, rfl⟩, ⟨_, rfl, ⟨_, ⟨_, idx_nat hx2, _, idx_row hx2, rfl⟩, ⟨_, rfl, ⟨_, ⟨_, rfl, rfl⟩, ⟨True.intro, ⟨rowsLen_map (f := cU8) (n := 1) (fun _ => rfl) x2.Data, app_b1 (f := cU8) (l' := x2.Data) hc1, _, rfl, ⟨_, rfl, ?_⟩⟩⟩⟩⟩⟩⟩⟩⟩⟩⟩
      refine Ok.wk (Wk.tab (L := [(1, (vi p_at)), (2, (vi p_bit)), (3, (.b 3 0)), (6, (.b 6 0)), (7, (.b 7 0)), (8, (vi s1.1)), (9, (.b 9 0))]) (H' := [(3, .box [(.s (List.map c_api_Page p_d.Synced)), (.s (List.map c_api_Page p_d.Loose)), (vb p_d.Down)]), (6, .box [(.v (.slice none 0 0)), (.v (.slice none 0 0)), (vb false)]), (7, .box [(.o 73), (.s (List.map c_api_Page p_d.Loose)), (vb p_d.Down)]), (73, .own 48 2 (List.map c_api_Page s1.2)), (9, .box [(vi x1.At), (.o 37)]), (37, .own 5 1 (List.map cU8 x2.Data))]) ⟨Le.refl _, Le.refl _, Le.refl _, Le.refl _, Le.refl _, Le.refl _, Le.refl _, True.intro⟩ ⟨⟨_, rfl, .refl _⟩, ⟨_, rfl, .refl _⟩, ⟨_, rfl, .refl _⟩, ⟨_, rfl, .refl _⟩, ⟨_, rfl, .refl _⟩, ⟨_, rfl, .refl _⟩, True.intro⟩ rfl) ?_
      obtain ⟨v2, hv2, hB1⟩ := bindS hB1
      refine Ok.seqw ⟨Cat.tab [(1, (vi p_at)), (2, (vi p_bit)), (3, (.b 3 0)), (6, (.b 6 0)), (7, (.b 7 0)), (8, (vi s1.1)), (9, (.b 9 0))], [(3, .box [(.s (List.map c_api_Page p_d.Synced)), (.s (List.map c_api_Page p_d.Loose)), (vb p_d.Down)]), (6, .box [(.v (.slice none 0 0)), (.v (.slice none 0 0)), (vb false)]), (7, .box [(.o 73), (.s (List.map c_api_Page p_d.Loose)), (vb p_d.Down)]), (73, .own 48 2 (List.map c_api_Page s1.2)), (9, .box [(vi x1.At), (.o 37)]), (37, .own 5 1 (List.map cU8 v2))]⟩ ?_ ?_
      · obtain ⟨v3, hv3, hv2⟩ := bindS hv2
        refine Ok.seqw ⟨Cat.tab [(1, (vi p_at)), (2, (vi p_bit)), (3, (.b 3 0)), (6, (.b 6 0)), (7, (.b 7 0)), (8, (vi s1.1)), (9, (.b 9 0)), (54, (vb v3))], [(3, .box [(.s (List.map c_api_Page p_d.Synced)), (.s (List.map c_api_Page p_d.Loose)), (vb p_d.Down)]), (6, .box [(.v (.slice none 0 0)), (.v (.slice none 0 0)), (vb false)]), (7, .box [(.o 73), (.s (List.map c_api_Page p_d.Loose)), (vb p_d.Down)]), (73, .own 48 2 (List.map c_api_Page s1.2)), (9, .box [(vi x1.At), (.o 37)]), (37, .own 5 1 (List.map cU8 x2.Data))]⟩ ?_ ?_
        · refine Ok.region Try.tok ?_
          refine ⟨_, rfl, ?_⟩
          obtain ⟨c1, hg1, hv3⟩ := bindS hv3
          refine Br.ite hg1 (fun hb hg1 => ?_) fun hb hg1 => ?_
          · cases hg1
            obtain ⟨c2, hg2, hv3⟩ := bindS hv3
            refine Br.ite hg2 (fun hb hg2 => ?_) fun hb hg2 => ?_
            · obtain ⟨hc2, hg2⟩ := chk_some hg2
              refine ⟨_, rfl, ⟨_, List.length_map _, fun _ => (Or.inl ⟨hc2, ?_⟩)⟩⟩
              cases hg2
              cases hv3
              exact Wk.tab ⟨Le.refl _, Le.refl _, Le.refl _, Le.refl _, Le.refl _, Le.refl _, Le.refl _, Le.refl _, True.intro⟩ ⟨⟨_, rfl, .refl _⟩, ⟨_, rfl, .refl _⟩, ⟨_, rfl, .refl _⟩, ⟨_, rfl, .refl _⟩, ⟨_, rfl, .refl _⟩, ⟨_, rfl, .refl _⟩, True.intro⟩ rfl
            · cases hg2
              cases hv3
              exact Wk.tab ⟨Le.refl _, Le.refl _, Le.refl _, Le.refl _, Le.refl _, Le.refl _, Le.refl _, Le.refl _, True.intro⟩ ⟨⟨_, rfl, .refl _⟩, ⟨_, rfl, .refl _⟩, ⟨_, rfl, .refl _⟩, ⟨_, rfl, .refl _⟩, ⟨_, rfl, .refl _⟩, ⟨_, rfl, .refl _⟩, True.intro⟩ rfl
          · cases hg1
            obtain ⟨c2, hg3, hv3⟩ := bindS hv3
            replace hg3 := iteF hg3
            cases hg3
            cases hv3
            exact Wk.tab ⟨Le.refl _, Le.refl _, Le.refl _, Le.refl _, Le.refl _, Le.refl _, Le.refl _, Le.refl _, True.intro⟩ ⟨⟨_, rfl, .refl _⟩, ⟨_, rfl, .refl _⟩, ⟨_, rfl, .refl _⟩, ⟨_, rfl, .refl _⟩, ⟨_, rfl, .refl _⟩, ⟨_, rfl, .refl _⟩, True.intro⟩ rfl
        refine Ok.cond (d := 54) (b := v3) rfl hv2 (fun hb hv2 => ?_) fun hb hv2 => ?_
        · refine Ok.draw (m := 14) (MD := ⟨[]⟩) (CH := ⟨[]⟩) Try.tok Try.mixed (by kernel_rfl) ?_
          obtain ⟨x3, hx3, hv2⟩ := bindS hv2
          obtain ⟨x4, hx4, hv2⟩ := bindS hv2
          obtain ⟨x5, hx5, hv2⟩ := bindS hv2
          refine ⟨_, rfl, ⟨_, ⟨_, rfl, rfl⟩, ⟨_, rfl, ⟨_, ⟨(by decide), _, rfl, rfl⟩, ⟨_, rfl, ⟨_, ⟨_, rfl, rfl⟩, ⟨_, rfl, ⟨_, ⟨(by decide), _, rfl, rfl⟩, ⟨_, ⟨_, idx_nat hx3, idx_ltm hx3, rfl⟩, ⟨_, ⟨_, idx_row hx3, rfl, _, rfl, rfl⟩, ⟨_, rfl, ⟨_, ⟨(by decide), _, rfl, rfl⟩, ⟨_, ⟨_, .of_pure (w_ref04_flip hx4) (LeL.refl _), rfl⟩, ⟨_, ⟨_, idx_nat hx5, idx_ltm hx5, rfl⟩, ⟨True.intro, ⟨_, idx_row hx5, rfl, _, rfl, _, set_row (f := cU8) (x := x4), ?_⟩⟩⟩⟩⟩⟩⟩⟩⟩⟩⟩⟩⟩⟩⟩⟩
          cases hv2
          exact Wk.tab ⟨Le.refl _, Le.refl _, Le.refl _, Le.refl _, Le.refl _, Le.refl _, Le.refl _, True.intro⟩ ⟨⟨_, rfl, .refl _⟩, ⟨_, rfl, .refl _⟩, ⟨_, rfl, .refl _⟩, ⟨_, rfl, .refl _⟩, ⟨_, rfl, .refl _⟩, ⟨_, rfl, .refl _⟩, True.intro⟩ rfl
        · refine Ok.skip ?_
          cases hv2
          exact Wk.tab ⟨Le.refl _, Le.refl _, Le.refl _, Le.refl _, Le.refl _, Le.refl _, Le.refl _, True.intro⟩ ⟨⟨_, rfl, .refl _⟩, ⟨_, rfl, .refl _⟩, ⟨_, rfl, .refl _⟩, ⟨_, rfl, .refl _⟩, ⟨_, rfl, .refl _⟩, ⟨_, rfl, .refl _⟩, True.intro⟩ rfl
      refine Ok.wk (Wk.freeze (id := 37) rfl) ?_
      refine Ok.region Try.tok ?_
      obtain ⟨hc3, hB1⟩ := chk_some hB1
      refine ⟨_, rfl, ⟨_, rfl, Or.inl ⟨rowsLen_map (f := c_api_Page) (n := 2) (fun _ => rfl) ([(⟨x1.At, v2⟩ : api_Page)]), app_b2 (f := c_api_Page) (l := s1.2) (l' := ([(⟨x1.At, v2⟩ : api_Page)])) hc3, _, (List.map_append (f := c_api_Page) (l₁ := s1.2) (l₂ := ([(⟨x1.At, v2⟩ : api_Page)]))).symm, ⟨_, rfl, ?_⟩⟩⟩⟩
      refine Ok.wk (Wk.tab (L := [(1, (vi p_at)), (2, (vi p_bit)), (3, (.b 3 0)), (6, (.b 6 0)), (7, (.b 7 0)), (8, (vi s1.1))]) (H' := [(3, .box [(.s (List.map c_api_Page p_d.Synced)), (.s (List.map c_api_Page p_d.Loose)), (vb p_d.Down)]), (6, .box [(.v (.slice none 0 0)), (.v (.slice none 0 0)), (vb false)]), (7, .box [(.o 73), (.s (List.map c_api_Page p_d.Loose)), (vb p_d.Down)]), (73, .own 48 2 (List.map c_api_Page ((s1.2 ++ [(⟨x1.At, v2⟩ : api_Page)]))))]) ⟨Le.refl _, Le.refl _, Le.refl _, Le.refl _, Le.refl _, Le.refl _, True.intro⟩ ⟨⟨_, rfl, .refl _⟩, ⟨_, rfl, .refl _⟩, ⟨_, rfl, .refl _⟩, ⟨_, rfl, .refl _⟩, True.intro⟩ rfl) ?_
      refine Ok.region Try.tok ?_
      obtain ⟨hc4, hB1⟩ := chk_some hB1
      refine (Or.inl ⟨hc4, ?_⟩)
      exact ⟨_, (Option.some.inj hB1).symm, Wk.tab ⟨Le.refl _, Le.refl _, Le.refl _, Le.refl _, Le.refl _, Le.refl _, True.intro⟩ ⟨⟨_, rfl, .refl _⟩, ⟨_, rfl, .refl _⟩, ⟨_, rfl, .refl _⟩, ⟨_, rfl, .refl _⟩, True.intro⟩ rfl⟩
    · refine Ok.exit ?_
      have hB1 := out_ret hB1 hy1
      cases hB1
      exact Wk.tab ⟨Le.refl _, Le.refl _, True.intro⟩ ⟨⟨_, rfl, .refl _⟩, ⟨_, rfl, .refl _⟩, ⟨_, rfl, .refl _⟩, True.intro⟩ rfl
  refine Ok.seq ?_
  refine Ok.region Try.tok ?_
  refine ⟨_, rfl, ⟨_, rfl, ?_⟩⟩
  refine Ok.wk (Wk.tab (L := [(6, (.b 6 0))]) (H' := [(6, .box [(.o 73), (.s (List.map c_api_Page p_d.Loose)), (vb p_d.Down)]), (73, .own 48 2 (List.map c_api_Page v1))]) ⟨Le.refl _, True.intro⟩ ⟨⟨_, rfl, .refl _⟩, ⟨_, rfl, .refl _⟩, True.intro⟩ rfl) ?_
  refine Ok.ret ?_
  cases h
  exact ⟨_, rfl, (Fz.a (.cons (Fz.o rfl) (.cons Fz.s (.cons Fz.v .nil))))⟩

theorem w_law04_told {p_d : api_Disk} {p_x : law04_Act} {r : api_Disk × Int} (h : law04_told p_d p_x = some r) : Pure Try.prog 14 [(.a [(.s (List.map c_api_Page p_d.Synced)), (.s (List.map c_api_Page p_d.Loose)), (vb p_d.Down)]), (.a [(vi p_x.Do), (vi p_x.At), (vi p_x.N), (.s (List.map cU8 p_x.Data))])] (.t [(.a [(.s (List.map c_api_Page r.1.Synced)), (.s (List.map c_api_Page r.1.Loose)), (vb r.1.Down)]), (vi r.2)]) := by
  refine pure_of_ok (n := 56) (c := (Try.f14.body.getD .skip)) Try.tok Try.func14 (by kernel_rfl) rfl rfl (Nat.le_of_ble_eq_true rfl) ?_
  unfold law04_told at h
  refine Ok.wk (Wk.tab (L := [(0, (.a [(.s (List.map c_api_Page p_d.Synced)), (.s (List.map c_api_Page p_d.Loose)), (vb p_d.Down)])), (1, (.a [(vi p_x.Do), (vi p_x.At), (vi p_x.N), (.s (List.map cU8 p_x.Data))]))]) (H' := []) ⟨Le.refl _, Le.refl _, True.intro⟩ True.intro rfl) ?_
  refine Ok.seq ?_
  refine Ok.region Try.tok ?_
  refine Ok.wk (Wk.tab (L := [(2, (.b 2 0)), (3, (.b 3 0)), (4, (.b 4 0))]) (H' := [(2, .box [(.s (List.map c_api_Page p_d.Synced)), (.s (List.map c_api_Page p_d.Loose)), (vb p_d.Down)]), (3, .box [(vi p_x.Do), (vi p_x.At), (vi p_x.N), (.s (List.map cU8 p_x.Data))]), (4, .box [(.v (.slice none 0 0)), (.v (.slice none 0 0)), (vb false)])]) ⟨Le.refl _, Le.refl _, Le.refl _, True.intro⟩ ⟨⟨_, rfl, .refl _⟩, ⟨_, rfl, .refl _⟩, ⟨_, rfl, .refl _⟩, True.intro⟩ rfl) ?_
  refine Ok.seq ?_
  refine Ok.seq ?_
  refine Ok.region Try.tok ?_
  refine ⟨_, rfl, ?_⟩
  refine Ok.wk (Wk.tab (L := [(2, (.b 2 0)), (3, (.b 3 0)), (4, (.b 4 0)), (11, (vi p_x.Do))]) (H' := [(2, .box [(.s (List.map c_api_Page p_d.Synced)), (.s (List.map c_api_Page p_d.Loose)), (vb p_d.Down)]), (3, .box [(vi p_x.Do), (vi p_x.At), (vi p_x.N), (.s (List.map cU8 p_x.Data))]), (4, .box [(.v (.slice none 0 0)), (.v (.slice none 0 0)), (vb false)])]) ⟨Le.refl _, Le.refl _, Le.refl _, Le.refl _, True.intro⟩ ⟨⟨_, rfl, .refl _⟩, ⟨_, rfl, .refl _⟩, ⟨_, rfl, .refl _⟩, True.intro⟩ rfl) ?_
  refine Ok.block ?_
  refine Ok.seq ?_
  refine Ok.region Try.tok ?_
  refine Ok.wk (Wk.tab (L := [(2, (.b 2 0)), (3, (.b 3 0)), (4, (.b 4 0)), (11, (vi p_x.Do)), (12, (vb ((p_x.Do == 0))))]) (H' := [(2, .box [(.s (List.map c_api_Page p_d.Synced)), (.s (List.map c_api_Page p_d.Loose)), (vb p_d.Down)]), (3, .box [(vi p_x.Do), (vi p_x.At), (vi p_x.N), (.s (List.map cU8 p_x.Data))]), (4, .box [(.v (.slice none 0 0)), (.v (.slice none 0 0)), (vb false)])]) ⟨Le.refl _, Le.refl _, Le.refl _, Le.refl _, Le.refl _, True.intro⟩ ⟨⟨_, rfl, .refl _⟩, ⟨_, rfl, .refl _⟩, ⟨_, rfl, .refl _⟩, True.intro⟩ rfl) ?_
  refine Ok.cond (d := 12) (b := (p_x.Do == 0)) rfl h (fun hb h => ?_) fun hb h => ?_
  · refine Ok.seq ?_
    refine Ok.region Try.tok ?_
    obtain ⟨x1, hx1, h⟩ := bindS h
    refine ⟨_, rfl, ⟨_, rfl, ⟨_, rfl, ?_⟩⟩⟩
    refine CallOk.call (w_ref04_Write hx1) (LeL.refl _) ?_
    refine ⟨_, rfl, ?_⟩
    refine Ok.wk (Wk.tab (L := [(4, (.b 4 0)), (6, (.b 6 0)), (7, (vi x1.2))]) (H' := [(4, .box [(.v (.slice none 0 0)), (.v (.slice none 0 0)), (vb false)]), (6, .box [(.s (List.map c_api_Page x1.1.Synced)), (.s (List.map c_api_Page x1.1.Loose)), (vb x1.1.Down)])]) ⟨Le.refl _, Le.refl _, Le.refl _, True.intro⟩ ⟨⟨_, rfl, .refl _⟩, ⟨_, rfl, .refl _⟩, True.intro⟩ rfl) ?_
    refine Ok.seq ?_
    refine Ok.region Try.tok ?_
    refine ⟨_, rfl, ⟨_, rfl, ?_⟩⟩
    refine Ok.wk (Wk.tab (L := [(4, (.b 4 0)), (5, (vi x1.2))]) (H' := [(4, .box [(.s (List.map c_api_Page x1.1.Synced)), (.s (List.map c_api_Page x1.1.Loose)), (vb x1.1.Down)])]) ⟨Le.refl _, Le.refl _, True.intro⟩ ⟨⟨_, rfl, .refl _⟩, True.intro⟩ rfl) ?_
    refine Ok.ret ?_
    cases h
    exact ⟨_, rfl, (Fz.t (.cons (Fz.imm rfl) (.cons Fz.v .nil)))⟩
  · refine Ok.seq ?_
    refine Ok.region Try.tok ?_
    refine Ok.wk (Wk.tab (L := [(2, (.b 2 0)), (3, (.b 3 0)), (4, (.b 4 0)), (11, (vi p_x.Do)), (25, (vb ((p_x.Do == 1))))]) (H' := [(2, .box [(.s (List.map c_api_Page p_d.Synced)), (.s (List.map c_api_Page p_d.Loose)), (vb p_d.Down)]), (3, .box [(vi p_x.Do), (vi p_x.At), (vi p_x.N), (.s (List.map cU8 p_x.Data))]), (4, .box [(.v (.slice none 0 0)), (.v (.slice none 0 0)), (vb false)])]) ⟨Le.refl _, Le.refl _, Le.refl _, Le.refl _, Le.refl _, True.intro⟩ ⟨⟨_, rfl, .refl _⟩, ⟨_, rfl, .refl _⟩, ⟨_, rfl, .refl _⟩, True.intro⟩ rfl) ?_
    refine Ok.cond (d := 25) (b := (p_x.Do == 1)) rfl h (fun hb h => ?_) fun hb h => ?_
    · refine Ok.seq ?_
      refine Ok.region Try.tok ?_
      obtain ⟨x2, hx2, h⟩ := bindS h
      refine ⟨_, rfl, ?_⟩
      refine CallOk.call (w_ref04_Sync hx2) (LeL.refl _) ?_
      refine ⟨_, rfl, ?_⟩
      refine Ok.wk (Wk.tab (L := [(4, (.b 4 0)), (8, (.b 8 0)), (9, (vi x2.2))]) (H' := [(4, .box [(.v (.slice none 0 0)), (.v (.slice none 0 0)), (vb false)]), (8, .box [(.s (List.map c_api_Page x2.1.Synced)), (.s (List.map c_api_Page x2.1.Loose)), (vb x2.1.Down)])]) ⟨Le.refl _, Le.refl _, Le.refl _, True.intro⟩ ⟨⟨_, rfl, .refl _⟩, ⟨_, rfl, .refl _⟩, True.intro⟩ rfl) ?_
      refine Ok.seq ?_
      refine Ok.region Try.tok ?_
      refine ⟨_, rfl, ⟨_, rfl, ?_⟩⟩
      refine Ok.wk (Wk.tab (L := [(4, (.b 4 0)), (5, (vi x2.2))]) (H' := [(4, .box [(.s (List.map c_api_Page x2.1.Synced)), (.s (List.map c_api_Page x2.1.Loose)), (vb x2.1.Down)])]) ⟨Le.refl _, Le.refl _, True.intro⟩ ⟨⟨_, rfl, .refl _⟩, True.intro⟩ rfl) ?_
      refine Ok.ret ?_
      cases h
      exact ⟨_, rfl, (Fz.t (.cons (Fz.imm rfl) (.cons Fz.v .nil)))⟩
    · refine Ok.seq ?_
      refine Ok.region Try.tok ?_
      refine Ok.wk (Wk.tab (L := [(2, (.b 2 0)), (3, (.b 3 0)), (4, (.b 4 0)), (11, (vi p_x.Do)), (34, (vb ((p_x.Do == 2))))]) (H' := [(2, .box [(.s (List.map c_api_Page p_d.Synced)), (.s (List.map c_api_Page p_d.Loose)), (vb p_d.Down)]), (3, .box [(vi p_x.Do), (vi p_x.At), (vi p_x.N), (.s (List.map cU8 p_x.Data))]), (4, .box [(.v (.slice none 0 0)), (.v (.slice none 0 0)), (vb false)])]) ⟨Le.refl _, Le.refl _, Le.refl _, Le.refl _, Le.refl _, True.intro⟩ ⟨⟨_, rfl, .refl _⟩, ⟨_, rfl, .refl _⟩, ⟨_, rfl, .refl _⟩, True.intro⟩ rfl) ?_
      refine Ok.cond (d := 34) (b := (p_x.Do == 2)) rfl h (fun hb h => ?_) fun hb h => ?_
      · refine Ok.seq ?_
        refine Ok.region Try.tok ?_
        obtain ⟨x3, hx3, h⟩ := bindS h
        refine ⟨_, rfl, ⟨_, rfl, ?_⟩⟩
        refine CallOk.call (w_ref04_Crash hx3) (LeL.refl _) ?_
        refine ⟨_, rfl, ?_⟩
        refine Ok.wk (Wk.tab (L := [(4, (.b 4 0)), (5, (vi (0)))]) (H' := [(4, .box [(.s (List.map c_api_Page x3.Synced)), (.s (List.map c_api_Page x3.Loose)), (vb x3.Down)])]) ⟨Le.refl _, Le.refl _, True.intro⟩ ⟨⟨_, rfl, .refl _⟩, True.intro⟩ rfl) ?_
        refine Ok.ret ?_
        cases h
        exact ⟨_, rfl, (Fz.t (.cons (Fz.imm rfl) (.cons Fz.v .nil)))⟩
      · refine Ok.seq ?_
        refine Ok.region Try.tok ?_
        refine Ok.wk (Wk.tab (L := [(2, (.b 2 0)), (3, (.b 3 0)), (4, (.b 4 0)), (11, (vi p_x.Do)), (40, (vb ((p_x.Do == 3))))]) (H' := [(2, .box [(.s (List.map c_api_Page p_d.Synced)), (.s (List.map c_api_Page p_d.Loose)), (vb p_d.Down)]), (3, .box [(vi p_x.Do), (vi p_x.At), (vi p_x.N), (.s (List.map cU8 p_x.Data))]), (4, .box [(.v (.slice none 0 0)), (.v (.slice none 0 0)), (vb false)])]) ⟨Le.refl _, Le.refl _, Le.refl _, Le.refl _, Le.refl _, True.intro⟩ ⟨⟨_, rfl, .refl _⟩, ⟨_, rfl, .refl _⟩, ⟨_, rfl, .refl _⟩, True.intro⟩ rfl) ?_
        refine Ok.cond (d := 40) (b := (p_x.Do == 3)) rfl h (fun hb h => ?_) fun hb h => ?_
        · refine Ok.seq ?_
          refine Ok.region Try.tok ?_
          refine ⟨_, rfl, ⟨_, rfl, ⟨_, rfl, ?_⟩⟩⟩
          refine Ok.wk (Wk.tab (L := [(4, (.b 4 0)), (5, (vi (0)))]) (H' := [(4, .box [(.s (List.map c_api_Page p_d.Synced)), (.s (List.map c_api_Page p_d.Loose)), (vb false)])]) ⟨Le.refl _, Le.refl _, True.intro⟩ ⟨⟨_, rfl, .refl _⟩, True.intro⟩ rfl) ?_
          refine Ok.ret ?_
          cases h
          exact ⟨_, rfl, (Fz.t (.cons (Fz.imm rfl) (.cons Fz.v .nil)))⟩
        · refine Ok.seq ?_
          refine Ok.region Try.tok ?_
          refine Ok.wk (Wk.tab (L := [(2, (.b 2 0)), (3, (.b 3 0)), (4, (.b 4 0)), (47, (vb ((p_x.Do == 4))))]) (H' := [(2, .box [(.s (List.map c_api_Page p_d.Synced)), (.s (List.map c_api_Page p_d.Loose)), (vb p_d.Down)]), (3, .box [(vi p_x.Do), (vi p_x.At), (vi p_x.N), (.s (List.map cU8 p_x.Data))]), (4, .box [(.v (.slice none 0 0)), (.v (.slice none 0 0)), (vb false)])]) ⟨Le.refl _, Le.refl _, Le.refl _, Le.refl _, True.intro⟩ ⟨⟨_, rfl, .refl _⟩, ⟨_, rfl, .refl _⟩, ⟨_, rfl, .refl _⟩, True.intro⟩ rfl) ?_
          refine Ok.cond (d := 47) (b := (p_x.Do == 4)) rfl h (fun hb h => ?_) fun hb h => ?_
          · refine Ok.seq ?_
            refine Ok.region Try.tok ?_
            obtain ⟨x4, hx4, h⟩ := bindS h
            refine ⟨_, rfl, ⟨_, rfl, ⟨_, rfl, ?_⟩⟩⟩
            refine CallOk.call (w_ref04_Rot hx4) (LeL.refl _) ?_
            refine ⟨_, rfl, ?_⟩
            refine Ok.wk (Wk.tab (L := [(4, (.b 4 0)), (5, (vi (0)))]) (H' := [(4, .box [(.s (List.map c_api_Page x4.Synced)), (.s (List.map c_api_Page x4.Loose)), (vb x4.Down)])]) ⟨Le.refl _, Le.refl _, True.intro⟩ ⟨⟨_, rfl, .refl _⟩, True.intro⟩ rfl) ?_
            refine Ok.ret ?_
            cases h
            exact ⟨_, rfl, (Fz.t (.cons (Fz.imm rfl) (.cons Fz.v .nil)))⟩
          · refine Ok.skip ?_
            refine Ok.seq ?_
            refine Ok.region Try.tok ?_
            refine ⟨_, rfl, ⟨_, rfl, ?_⟩⟩
            refine Ok.wk (Wk.tab (L := [(4, (.b 4 0)), (5, (vi (0)))]) (H' := [(4, .box [(.s (List.map c_api_Page p_d.Synced)), (.s (List.map c_api_Page p_d.Loose)), (vb p_d.Down)])]) ⟨Le.refl _, Le.refl _, True.intro⟩ ⟨⟨_, rfl, .refl _⟩, True.intro⟩ rfl) ?_
            refine Ok.ret ?_
            cases h
            exact ⟨_, rfl, (Fz.t (.cons (Fz.imm rfl) (.cons Fz.v .nil)))⟩

theorem w_ref04_Pages {p_a : List api_Page} {p_b : List api_Page} {r : Bool} (h : ref04_Pages p_a p_b = some r) : Pure Try.prog 33 [(.s (List.map c_api_Page p_a)), (.s (List.map c_api_Page p_b))] (vb r) := by
  refine pure_of_ok (n := 44) (c := (Try.f33.body.getD .skip)) Try.tok Try.func33 (by kernel_rfl) rfl rfl (Nat.le_of_ble_eq_true rfl) ?_
  unfold ref04_Pages at h
  refine Ok.wk (Wk.tab (L := [(0, (.s (List.map c_api_Page p_a))), (1, (.s (List.map c_api_Page p_b)))]) (H' := []) ⟨Le.refl _, Le.refl _, True.intro⟩ True.intro rfl) ?_
  refine Ok.seq ?_
  refine Ok.region Try.tok ?_
  refine Ok.wk (Wk.tab (L := [(0, (.s (List.map c_api_Page p_a))), (1, (.s (List.map c_api_Page p_b)))]) (H' := []) ⟨Le.refl _, Le.refl _, True.intro⟩ True.intro rfl) ?_
  refine Ok.seq ?_
  refine Ok.seq ?_
  refine Ok.region Try.tok ?_
  refine ⟨_, List.length_map _, fun _ => ⟨_, List.length_map _, fun _ => ?_⟩⟩
  refine Ok.wk (Wk.tab (L := [(0, (.s (List.map c_api_Page p_a))), (1, (.s (List.map c_api_Page p_b))), (11, (vb (((p_a.length : Int) != (p_b.length : Int)))))]) (H' := []) ⟨Le.refl _, Le.refl _, Le.refl _, True.intro⟩ True.intro rfl) ?_
  refine Ok.cond (d := 11) (b := ((p_a.length : Int) != (p_b.length : Int))) rfl h (fun hb h => ?_) fun hb h => ?_
  · refine Ok.seq ?_
    refine Ok.region Try.tok ?_
    refine Ok.wk (Wk.tab (L := [(4, (vb false))]) (H' := []) ⟨Le.refl _, True.intro⟩ True.intro rfl) ?_
    refine Ok.ret ?_
    cases h
    exact Fz.v
  · refine Ok.skip ?_
    refine Ok.seqj (fun v1 => ⟨Cat.tab [], []⟩) (fun v1 => ref04_Pages_J1 v1 = some r) ?_ ?_
    · refine Ok.seq ?_
      refine Ok.region Try.tok ?_
      refine Ok.wk (Wk.tab (L := [(0, (.s (List.map c_api_Page p_a))), (1, (.s (List.map c_api_Page p_b))), (5, (vi (0)))]) (H' := []) ⟨Le.refl _, Le.refl _, Le.refl _, True.intro⟩ True.intro rfl) ?_
      refine Ok.block ?_
      refine Ok.loop (fun (s1 : Int) => ⟨Cat.tab [(0, (.s (List.map c_api_Page p_a))), (1, (.s (List.map c_api_Page p_b))), (5, (vi s1))], []⟩) (ref04_Pages_B1 p_a p_b) (s0 := 0) h (Wk.tab ⟨Le.refl _, Le.refl _, Le.refl _, True.intro⟩ True.intro rfl) ?_
      intro s1 y1 hB1 hy1
      unfold ref04_Pages_B1 at hB1
      refine Ok.seq ?_
      refine Ok.seq ?_
      refine Ok.region Try.tok ?_
      refine ⟨_, List.length_map _, fun _ => ?_⟩
      refine Ok.wk (Wk.tab (L := [(0, (.s (List.map c_api_Page p_a))), (1, (.s (List.map c_api_Page p_b))), (5, (vi s1)), (15, (vb ((decide (s1 < (p_a.length : Int))))))]) (H' := []) ⟨Le.refl _, Le.refl _, Le.refl _, Le.refl _, True.intro⟩ True.intro rfl) ?_
      refine Ok.cond (d := 15) (b := (decide (s1 < (p_a.length : Int)))) rfl hB1 (fun hb hB1 => ?_) fun hb hB1 => ?_
      · refine Ok.skip ?_
        refine Ok.seq ?_
        refine Ok.block ?_
        refine Ok.seq ?_
        refine Ok.draw (m := 12) (MD := ⟨[]⟩) (CH := ⟨[]⟩) Try.tok Try.mixed (by kernel_rfl) ?_
        obtain ⟨x1, hx1, hB1⟩ := bindS hB1
        obtain ⟨x2, hx2, hB1⟩ := bindS hB1
        obtain ⟨x3, hx3, hB1⟩ := bindS hB1
        refine ⟨_, rfl, ⟨_, rfl, ⟨_, ⟨_, idx_nat hx1, _, idx_row hx1, rfl⟩, ⟨_, rfl, ⟨_, ⟨_, rfl, rfl⟩, ⟨_, rfl, ⟨_, rfl, ⟨_, ⟨_, idx_nat hx2, _, idx_row hx2, rfl⟩, ⟨_, rfl, ⟨_, ⟨_, rfl, rfl⟩, ⟨_, ⟨_, .of_pure (w_ref04_Bytes hx3) (LeL.refl _), rfl⟩, ⟨_, rfl, ⟨True.intro, ?_⟩⟩⟩⟩⟩⟩⟩⟩⟩⟩⟩⟩⟩
        refine Ok.wk (Wk.tab (L := [(0, (.s (List.map c_api_Page p_a))), (1, (.s (List.map c_api_Page p_b))), (5, (vi s1)), (6, (vb x3))]) (H' := []) ⟨Le.refl _, Le.refl _, Le.refl _, Le.refl _, True.intro⟩ True.intro rfl) ?_
        obtain ⟨v2, hv2, hB1⟩ := bindS hB1
        refine Ok.seqw ⟨Cat.tab [(0, (.s (List.map c_api_Page p_a))), (1, (.s (List.map c_api_Page p_b))), (5, (vi s1)), (43, (vb v2))], []⟩ ?_ ?_
        · refine Ok.draw (m := 15) (MD := ⟨[]⟩) (CH := ⟨[]⟩) Try.tok Try.mixed (by kernel_rfl) ?_
          refine ⟨_, rfl, ⟨_, rfl, ⟨_, rfl, ?_⟩⟩⟩
          obtain ⟨c1, hg1, hv2⟩ := bindS hv2
          refine Br.itf hg1 (fun hb hg1 => ?_) fun hb hg1 => ?_
          · cases hg1
            refine ⟨_, rfl, ?_⟩
            refine ⟨True.intro, ?_⟩
            cases hv2
            exact Wk.tab ⟨Le.refl _, Le.refl _, Le.refl _, Le.refl _, True.intro⟩ True.intro rfl
          · obtain ⟨x4, hx4, hg1⟩ := bindS hg1
            obtain ⟨x5, hx5, hg1⟩ := bindS hg1
            refine ⟨_, rfl, ⟨_, rfl, ⟨_, ⟨_, idx_nat hx4, _, idx_row hx4, rfl⟩, ⟨_, rfl, ⟨_, ⟨_, rfl, rfl⟩, ⟨_, rfl, ⟨_, rfl, ⟨_, ⟨_, idx_nat hx5, _, idx_row hx5, rfl⟩, ⟨_, rfl, ⟨_, ⟨_, rfl, rfl⟩, ⟨_, rfl, ?_⟩⟩⟩⟩⟩⟩⟩⟩⟩⟩⟩
            cases hg1
            refine ⟨_, rfl, ?_⟩
            refine ⟨True.intro, ?_⟩
            cases hv2
            exact Wk.tab ⟨Le.refl _, Le.refl _, Le.refl _, Le.refl _, True.intro⟩ True.intro rfl
        refine Ok.cond (d := 43) (b := v2) rfl hB1 (fun hb hB1 => ?_) fun hb hB1 => ?_
        · refine Ok.seq ?_
          refine Ok.region Try.tok ?_
          refine Ok.wk (Wk.tab (L := [(4, (vb false))]) (H' := []) ⟨Le.refl _, True.intro⟩ True.intro rfl) ?_
          refine Ok.ret ?_
          have hB1 := out_ret hB1 hy1
          cases hB1
          exact Fz.v
        · refine Ok.skip ?_
          refine Ok.region Try.tok ?_
          obtain ⟨hc1, hB1⟩ := chk_some hB1
          refine (Or.inl ⟨hc1, ?_⟩)
          exact ⟨_, (Option.some.inj hB1).symm, Wk.tab ⟨Le.refl _, Le.refl _, Le.refl _, True.intro⟩ True.intro rfl⟩
      · refine Ok.exit ?_
        have hB1 := out_ret hB1 hy1
        exact ⟨_, hB1, Wk.tab True.intro True.intro rfl⟩
    intro v1 h
    unfold ref04_Pages_J1 at h
    refine Ok.seq ?_
    refine Ok.region Try.tok ?_
    refine Ok.wk (Wk.tab (L := [(4, (vb true))]) (H' := []) ⟨Le.refl _, True.intro⟩ True.intro rfl) ?_
    refine Ok.ret ?_
    cases h
    exact Fz.v

theorem w_ref04_Same {p_a : api_Disk} {p_b : api_Disk} {r : Bool} (h : ref04_Same p_a p_b = some r) : Pure Try.prog 15 [(.a [(.s (List.map c_api_Page p_a.Synced)), (.s (List.map c_api_Page p_a.Loose)), (vb p_a.Down)]), (.a [(.s (List.map c_api_Page p_b.Synced)), (.s (List.map c_api_Page p_b.Loose)), (vb p_b.Down)])] (vb r) := by
  refine pure_of_ok (n := 28) (c := (Try.f15.body.getD .skip)) Try.tok Try.func15 (by kernel_rfl) rfl rfl (Nat.le_of_ble_eq_true rfl) ?_
  unfold ref04_Same at h
  refine Ok.wk (Wk.tab (L := [(0, (.a [(.s (List.map c_api_Page p_a.Synced)), (.s (List.map c_api_Page p_a.Loose)), (vb p_a.Down)])), (1, (.a [(.s (List.map c_api_Page p_b.Synced)), (.s (List.map c_api_Page p_b.Loose)), (vb p_b.Down)]))]) (H' := []) ⟨Le.refl _, Le.refl _, True.intro⟩ True.intro rfl) ?_
  refine Ok.seq ?_
  refine Ok.region Try.tok ?_
  refine Ok.wk (Wk.tab (L := [(2, (.b 2 0)), (3, (.b 3 0))]) (H' := [(2, .box [(.s (List.map c_api_Page p_a.Synced)), (.s (List.map c_api_Page p_a.Loose)), (vb p_a.Down)]), (3, .box [(.s (List.map c_api_Page p_b.Synced)), (.s (List.map c_api_Page p_b.Loose)), (vb p_b.Down)])]) ⟨Le.refl _, Le.refl _, True.intro⟩ ⟨⟨_, rfl, .refl _⟩, ⟨_, rfl, .refl _⟩, True.intro⟩ rfl) ?_
  refine Ok.seq ?_
  refine Ok.region Try.tok ?_
  obtain ⟨x1, hx1, h⟩ := bindS h
  refine ⟨_, rfl, ⟨_, rfl, ?_⟩⟩
  refine CallOk.call (w_ref04_Pages hx1) (LeL.refl _) ?_
  refine Ok.wk (Wk.tab (L := [(2, (.b 2 0)), (3, (.b 3 0)), (5, (vb x1))]) (H' := [(2, .box [(.s (List.map c_api_Page p_a.Synced)), (.s (List.map c_api_Page p_a.Loose)), (vb p_a.Down)]), (3, .box [(.s (List.map c_api_Page p_b.Synced)), (.s (List.map c_api_Page p_b.Loose)), (vb p_b.Down)])]) ⟨Le.refl _, Le.refl _, Le.refl _, True.intro⟩ ⟨⟨_, rfl, .refl _⟩, ⟨_, rfl, .refl _⟩, True.intro⟩ rfl) ?_
  refine Ok.seq ?_
  refine Ok.region Try.tok ?_
  obtain ⟨x2, hx2, h⟩ := bindS h
  refine ⟨_, rfl, ⟨_, rfl, ?_⟩⟩
  refine CallOk.call (w_ref04_Pages hx2) (LeL.refl _) ?_
  refine Ok.wk (Wk.tab (L := [(2, (.b 2 0)), (3, (.b 3 0)), (5, (vb x1)), (6, (vb x2))]) (H' := [(2, .box [(.s (List.map c_api_Page p_a.Synced)), (.s (List.map c_api_Page p_a.Loose)), (vb p_a.Down)]), (3, .box [(.s (List.map c_api_Page p_b.Synced)), (.s (List.map c_api_Page p_b.Loose)), (vb p_b.Down)])]) ⟨Le.refl _, Le.refl _, Le.refl _, Le.refl _, True.intro⟩ ⟨⟨_, rfl, .refl _⟩, ⟨_, rfl, .refl _⟩, True.intro⟩ rfl) ?_
  obtain ⟨v1, hv1, h⟩ := bindS h
  refine Ok.seqw ⟨Cat.tab [(4, (vb v1))], []⟩ ?_ ?_
  · refine Ok.region Try.tok ?_
    obtain ⟨c1, hg1, hv1⟩ := bindS hv1
    refine Br.ite hg1 (fun hb hg1 => ?_) fun hb hg1 => ?_
    · cases hg1
      obtain ⟨c2, hg2, hv1⟩ := bindS hv1
      refine Br.ite hg2 (fun hb hg2 => ?_) fun hb hg2 => ?_
      · refine ⟨_, rfl, ⟨_, rfl, ?_⟩⟩
        cases hg2
        cases hv1
        exact Wk.tab ⟨Le.refl _, True.intro⟩ True.intro rfl
      · cases hg2
        cases hv1
        exact Wk.tab ⟨Le.refl _, True.intro⟩ True.intro rfl
    · cases hg1
      obtain ⟨c2, hg3, hv1⟩ := bindS hv1
      replace hg3 := iteF hg3
      cases hg3
      cases hv1
      exact Wk.tab ⟨Le.refl _, True.intro⟩ True.intro rfl
  refine Ok.ret ?_
  cases h
  exact Fz.v

theorem w_ref04_Read {p_d : api_Disk} {p_at : Int} {r : (List UInt8) × Int} (h : ref04_Read p_d p_at = some r) : Pure Try.prog 17 [(.a [(.s (List.map c_api_Page p_d.Synced)), (.s (List.map c_api_Page p_d.Loose)), (vb p_d.Down)]), (vi p_at)] (.t [(.s (List.map cU8 r.1)), (vi r.2)]) := by
  refine pure_of_ok (n := 59) (c := (Try.f17.body.getD .skip)) Try.tok Try.func17 (by kernel_rfl) rfl rfl (Nat.le_of_ble_eq_true rfl) ?_
  unfold ref04_Read at h
  refine Ok.wk (Wk.tab (L := [(0, (.a [(.s (List.map c_api_Page p_d.Synced)), (.s (List.map c_api_Page p_d.Loose)), (vb p_d.Down)])), (1, (vi p_at))]) (H' := []) ⟨Le.refl _, Le.refl _, True.intro⟩ True.intro rfl) ?_
  refine Ok.seq ?_
  refine Ok.region Try.tok ?_
  refine Ok.wk (Wk.tab (L := [(1, (vi p_at)), (2, (.b 2 0))]) (H' := [(2, .box [(.s (List.map c_api_Page p_d.Synced)), (.s (List.map c_api_Page p_d.Loose)), (vb p_d.Down)])]) ⟨Le.refl _, Le.refl _, True.intro⟩ ⟨⟨_, rfl, .refl _⟩, True.intro⟩ rfl) ?_
  refine Ok.seq ?_
  refine Ok.seq ?_
  refine Ok.region Try.tok ?_
  refine ⟨_, rfl, ?_⟩
  refine Ok.wk (Wk.tab (L := [(1, (vi p_at)), (2, (.b 2 0)), (9, (vb p_d.Down))]) (H' := [(2, .box [(.s (List.map c_api_Page p_d.Synced)), (.s (List.map c_api_Page p_d.Loose)), (vb p_d.Down)])]) ⟨Le.refl _, Le.refl _, Le.refl _, True.intro⟩ ⟨⟨_, rfl, .refl _⟩, True.intro⟩ rfl) ?_
  refine Ok.cond (d := 9) (b := p_d.Down) rfl h (fun hb h => ?_) fun hb h => ?_
  · refine Ok.seq ?_
    refine Ok.region Try.tok ?_
    refine Ok.wk (Wk.tab (L := [(4, (.v (.slice none 0 0))), (5, (vi (40)))]) (H' := []) ⟨Le.refl _, Le.refl _, True.intro⟩ True.intro rfl) ?_
    refine Ok.ret ?_
    cases h
    exact (Fz.t (.cons Fz.nil (.cons Fz.v .nil)))
  · refine Ok.skip ?_
    refine Ok.seq ?_
    obtain ⟨v1, hv1, h⟩ := bindS h
    refine Ok.seqw ⟨Cat.tab [(1, (vi p_at)), (2, (.b 2 0)), (15, (vb v1))], [(2, .box [(.s (List.map c_api_Page p_d.Synced)), (.s (List.map c_api_Page p_d.Loose)), (vb p_d.Down)])]⟩ ?_ ?_
    · refine Ok.region Try.tok ?_
      obtain ⟨c1, hg1, hv1⟩ := bindS hv1
      refine Br.itf hg1 (fun hb hg1 => ?_) fun hb hg1 => ?_
      · cases hg1
        cases hv1
        exact Wk.tab ⟨Le.refl _, Le.refl _, Le.refl _, True.intro⟩ ⟨⟨_, rfl, .refl _⟩, True.intro⟩ rfl
      · cases hg1
        cases hv1
        exact Wk.tab ⟨Le.refl _, Le.refl _, Le.refl _, True.intro⟩ ⟨⟨_, rfl, .refl _⟩, True.intro⟩ rfl
    refine Ok.cond (d := 15) (b := v1) rfl h (fun hb h => ?_) fun hb h => ?_
    · refine Ok.seq ?_
      refine Ok.region Try.tok ?_
      refine Ok.wk (Wk.tab (L := [(4, (.v (.slice none 0 0))), (5, (vi (1)))]) (H' := []) ⟨Le.refl _, Le.refl _, True.intro⟩ True.intro rfl) ?_
      refine Ok.ret ?_
      cases h
      exact (Fz.t (.cons Fz.nil (.cons Fz.v .nil)))
    · refine Ok.skip ?_
      refine Ok.seqj (fun v2 => ⟨Cat.tab [(1, (vi p_at)), (2, (.b 2 0))], [(2, .box [(.s (List.map c_api_Page p_d.Synced)), (.s (List.map c_api_Page p_d.Loose)), (vb p_d.Down)])]⟩) (fun v2 => ref04_Read_J1 p_d p_at v2 = some r) ?_ ?_
      · refine Ok.seq ?_
        refine Ok.region Try.tok ?_
        obtain ⟨hc1, h⟩ := chk_some h
        refine ⟨_, rfl, ⟨_, List.length_map _, fun _ => (Or.inl ⟨hc1, ?_⟩)⟩⟩
        refine Ok.wk (Wk.tab (L := [(1, (vi p_at)), (2, (.b 2 0)), (6, (vi (((p_d.Loose.length : Int) - 1))))]) (H' := [(2, .box [(.s (List.map c_api_Page p_d.Synced)), (.s (List.map c_api_Page p_d.Loose)), (vb p_d.Down)])]) ⟨Le.refl _, Le.refl _, Le.refl _, True.intro⟩ ⟨⟨_, rfl, .refl _⟩, True.intro⟩ rfl) ?_
        refine Ok.block ?_
        refine Ok.loop (fun (s1 : Int) => ⟨Cat.tab [(1, (vi p_at)), (2, (.b 2 0)), (6, (vi s1))], [(2, .box [(.s (List.map c_api_Page p_d.Synced)), (.s (List.map c_api_Page p_d.Loose)), (vb p_d.Down)])]⟩) (ref04_Read_B1 p_d p_at) (s0 := ((p_d.Loose.length : Int) - 1)) h (Wk.tab ⟨Le.refl _, Le.refl _, Le.refl _, True.intro⟩ ⟨⟨_, rfl, .refl _⟩, True.intro⟩ rfl) ?_
        intro s1 y1 hB1 hy1
        unfold ref04_Read_B1 at hB1
        refine Ok.seq ?_
        refine Ok.seq ?_
        refine Ok.region Try.tok ?_
        refine Ok.wk (Wk.tab (L := [(1, (vi p_at)), (2, (.b 2 0)), (6, (vi s1)), (21, (vb ((decide (s1 ≥ 0)))))]) (H' := [(2, .box [(.s (List.map c_api_Page p_d.Synced)), (.s (List.map c_api_Page p_d.Loose)), (vb p_d.Down)])]) ⟨Le.refl _, Le.refl _, Le.refl _, Le.refl _, True.intro⟩ ⟨⟨_, rfl, .refl _⟩, True.intro⟩ rfl) ?_
        refine Ok.cond (d := 21) (b := (decide (s1 ≥ 0))) rfl hB1 (fun hb hB1 => ?_) fun hb hB1 => ?_
        · refine Ok.skip ?_
          refine Ok.seq ?_
          refine Ok.block ?_
          refine Ok.seq ?_
          refine Ok.region Try.tok ?_
          obtain ⟨x1, hx1, hB1⟩ := bindS hB1
          refine ⟨_, rfl, ⟨_, idx_nat hx1, _, idx_row hx1, ⟨_, rfl, ?_⟩⟩⟩
          refine Ok.wk (Wk.tab (L := [(1, (vi p_at)), (2, (.b 2 0)), (6, (vi s1)), (31, (vb ((x1.At == p_at))))]) (H' := [(2, .box [(.s (List.map c_api_Page p_d.Synced)), (.s (List.map c_api_Page p_d.Loose)), (vb p_d.Down)])]) ⟨Le.refl _, Le.refl _, Le.refl _, Le.refl _, True.intro⟩ ⟨⟨_, rfl, .refl _⟩, True.intro⟩ rfl) ?_
          refine Ok.cond (d := 31) (b := (x1.At == p_at)) rfl hB1 (fun hb hB1 => ?_) fun hb hB1 => ?_
          · refine Ok.seq ?_
            refine Ok.region Try.tok ?_
            obtain ⟨x2, hx2, hB1⟩ := bindS hB1
            refine ⟨_, rfl, ⟨_, idx_nat hx2, _, idx_row hx2, ⟨_, rfl, ?_⟩⟩⟩
            refine Ok.wk (Wk.tab (L := [(4, (.s (List.map cU8 x2.Data))), (5, (vi (0)))]) (H' := []) ⟨Le.refl _, Le.refl _, True.intro⟩ True.intro rfl) ?_
            refine Ok.ret ?_
            have hB1 := out_ret hB1 hy1
            cases hB1
            exact (Fz.t (.cons Fz.s (.cons Fz.v .nil)))
          · refine Ok.skip ?_
            refine Ok.region Try.tok ?_
            obtain ⟨hc2, hB1⟩ := chk_some hB1
            refine (Or.inl ⟨hc2, ?_⟩)
            exact ⟨_, (Option.some.inj hB1).symm, Wk.tab ⟨Le.refl _, Le.refl _, Le.refl _, True.intro⟩ ⟨⟨_, rfl, .refl _⟩, True.intro⟩ rfl⟩
        · refine Ok.exit ?_
          have hB1 := out_ret hB1 hy1
          exact ⟨_, hB1, Wk.tab ⟨Le.refl _, Le.refl _, True.intro⟩ ⟨⟨_, rfl, .refl _⟩, True.intro⟩ rfl⟩
      intro v2 h
      unfold ref04_Read_J1 at h
      refine Ok.seqj (fun v3 => ⟨Cat.tab [], []⟩) (fun v3 => ref04_Read_J2 v3 = some r) ?_ ?_
      · refine Ok.seq ?_
        refine Ok.region Try.tok ?_
        refine Ok.wk (Wk.tab (L := [(1, (vi p_at)), (2, (.b 2 0)), (7, (vi (0)))]) (H' := [(2, .box [(.s (List.map c_api_Page p_d.Synced)), (.s (List.map c_api_Page p_d.Loose)), (vb p_d.Down)])]) ⟨Le.refl _, Le.refl _, Le.refl _, True.intro⟩ ⟨⟨_, rfl, .refl _⟩, True.intro⟩ rfl) ?_
        refine Ok.block ?_
        refine Ok.loop (fun (s2 : Int) => ⟨Cat.tab [(1, (vi p_at)), (2, (.b 2 0)), (7, (vi s2))], [(2, .box [(.s (List.map c_api_Page p_d.Synced)), (.s (List.map c_api_Page p_d.Loose)), (vb p_d.Down)])]⟩) (ref04_Read_B2 p_d p_at) (s0 := 0) h (Wk.tab ⟨Le.refl _, Le.refl _, Le.refl _, True.intro⟩ ⟨⟨_, rfl, .refl _⟩, True.intro⟩ rfl) ?_
        intro s2 y2 hB2 hy2
        unfold ref04_Read_B2 at hB2
        refine Ok.seq ?_
        refine Ok.seq ?_
        refine Ok.region Try.tok ?_
        refine ⟨_, rfl, ⟨_, List.length_map _, fun _ => ?_⟩⟩
        refine Ok.wk (Wk.tab (L := [(1, (vi p_at)), (2, (.b 2 0)), (7, (vi s2)), (42, (vb ((decide (s2 < (p_d.Synced.length : Int))))))]) (H' := [(2, .box [(.s (List.map c_api_Page p_d.Synced)), (.s (List.map c_api_Page p_d.Loose)), (vb p_d.Down)])]) ⟨Le.refl _, Le.refl _, Le.refl _, Le.refl _, True.intro⟩ ⟨⟨_, rfl, .refl _⟩, True.intro⟩ rfl) ?_
        refine Ok.cond (d := 42) (b := (decide (s2 < (p_d.Synced.length : Int)))) rfl hB2 (fun hb hB2 => ?_) fun hb hB2 => ?_
        · refine Ok.skip ?_
          refine Ok.seq ?_
          refine Ok.block ?_
          refine Ok.seq ?_
          refine Ok.region Try.tok ?_
          obtain ⟨x3, hx3, hB2⟩ := bindS hB2
          refine ⟨_, rfl, ⟨_, idx_nat hx3, _, idx_row hx3, ⟨_, rfl, ?_⟩⟩⟩
          refine Ok.wk (Wk.tab (L := [(1, (vi p_at)), (2, (.b 2 0)), (7, (vi s2)), (52, (vb ((x3.At == p_at))))]) (H' := [(2, .box [(.s (List.map c_api_Page p_d.Synced)), (.s (List.map c_api_Page p_d.Loose)), (vb p_d.Down)])]) ⟨Le.refl _, Le.refl _, Le.refl _, Le.refl _, True.intro⟩ ⟨⟨_, rfl, .refl _⟩, True.intro⟩ rfl) ?_
          refine Ok.cond (d := 52) (b := (x3.At == p_at)) rfl hB2 (fun hb hB2 => ?_) fun hb hB2 => ?_
          · refine Ok.seq ?_
            refine Ok.region Try.tok ?_
            obtain ⟨x4, hx4, hB2⟩ := bindS hB2
            refine ⟨_, rfl, ⟨_, idx_nat hx4, _, idx_row hx4, ⟨_, rfl, ?_⟩⟩⟩
            refine Ok.wk (Wk.tab (L := [(4, (.s (List.map cU8 x4.Data))), (5, (vi (0)))]) (H' := []) ⟨Le.refl _, Le.refl _, True.intro⟩ True.intro rfl) ?_
            refine Ok.ret ?_
            have hB2 := out_ret hB2 hy2
            cases hB2
            exact (Fz.t (.cons Fz.s (.cons Fz.v .nil)))
          · refine Ok.skip ?_
            refine Ok.region Try.tok ?_
            obtain ⟨hc3, hB2⟩ := chk_some hB2
            refine (Or.inl ⟨hc3, ?_⟩)
            exact ⟨_, (Option.some.inj hB2).symm, Wk.tab ⟨Le.refl _, Le.refl _, Le.refl _, True.intro⟩ ⟨⟨_, rfl, .refl _⟩, True.intro⟩ rfl⟩
        · refine Ok.exit ?_
          have hB2 := out_ret hB2 hy2
          exact ⟨_, hB2, Wk.tab True.intro True.intro rfl⟩
      intro v3 h
      unfold ref04_Read_J2 at h
      refine Ok.seq ?_
      refine Ok.region Try.tok ?_
      refine Ok.wk (Wk.tab (L := [(4, (.v (.slice none 0 0))), (5, (vi (41)))]) (H' := []) ⟨Le.refl _, Le.refl _, True.intro⟩ True.intro rfl) ?_
      refine Ok.ret ?_
      cases h
      exact (Fz.t (.cons Fz.nil (.cons Fz.v .nil)))

theorem w_law04_DiskTells [Off] {p_d : api_Disk} {p_l : List law04_Act} {p_at : Int} {r : Bool} (h : law04_DiskTells p_d p_l p_at = some r) : Pure Try.prog 3 [(.a [(.s (List.map c_api_Page p_d.Synced)), (.s (List.map c_api_Page p_d.Loose)), (vb p_d.Down)]), (.s (List.map c_law04_Act p_l)), (vi p_at)] (vb r) := by
  refine pure_of_ok (n := 140) (c := (Try.f3.body.getD .skip)) Try.tok Try.func3 (by kernel_rfl) rfl rfl (Nat.le_of_ble_eq_true rfl) ?_
  unfold law04_DiskTells at h
  refine Ok.wk (Wk.tab (L := [(0, (.a [(.s (List.map c_api_Page p_d.Synced)), (.s (List.map c_api_Page p_d.Loose)), (vb p_d.Down)])), (1, (.s (List.map c_law04_Act p_l))), (2, (vi p_at))]) (H' := []) ⟨Le.refl _, Le.refl _, Le.refl _, True.intro⟩ True.intro rfl) ?_
  refine Ok.seq ?_
  refine Ok.region Try.tok ?_
  refine Ok.wk (Wk.tab (L := [(1, (.s (List.map c_law04_Act p_l))), (2, (vi p_at)), (3, (.b 3 0))]) (H' := [(3, .box [(.s (List.map c_api_Page p_d.Synced)), (.s (List.map c_api_Page p_d.Loose)), (vb p_d.Down)])]) ⟨Le.refl _, Le.refl _, Le.refl _, True.intro⟩ ⟨⟨_, rfl, .refl _⟩, True.intro⟩ rfl) ?_
  refine Ok.seq ?_
  refine Ok.region Try.tok ?_
  obtain ⟨x1, hx1, h⟩ := bindS h
  refine CallOk.call (w_law04_head hx1) (LeL.refl _) ?_
  refine Ok.wk (Wk.tab (L := [(1, (.s (List.map c_law04_Act p_l))), (2, (vi p_at)), (3, (.b 3 0)), (7, (vb x1))]) (H' := [(3, .box [(.s (List.map c_api_Page p_d.Synced)), (.s (List.map c_api_Page p_d.Loose)), (vb p_d.Down)])]) ⟨Le.refl _, Le.refl _, Le.refl _, Le.refl _, True.intro⟩ ⟨⟨_, rfl, .refl _⟩, True.intro⟩ rfl) ?_
  refine Ok.seq ?_
  refine Ok.region Try.tok ?_
  obtain ⟨x2, hx2, h⟩ := bindS h
  refine ⟨_, rfl, ?_⟩
  refine CallOk.call (w_disk_Right hx2) (LeL.refl _) ?_
  refine Ok.wk (Wk.tab (L := [(1, (.s (List.map c_law04_Act p_l))), (2, (vi p_at)), (3, (.b 3 0)), (7, (vb x1)), (8, (vb x2))]) (H' := [(3, .box [(.s (List.map c_api_Page p_d.Synced)), (.s (List.map c_api_Page p_d.Loose)), (vb p_d.Down)])]) ⟨Le.refl _, Le.refl _, Le.refl _, Le.refl _, Le.refl _, True.intro⟩ ⟨⟨_, rfl, .refl _⟩, True.intro⟩ rfl) ?_
  refine Ok.seq ?_
  refine Ok.region Try.tok ?_
  obtain ⟨x3, hx3, h⟩ := bindS h
  refine ⟨_, rfl, ?_⟩
  refine CallOk.call (w_law04_Fits hx3) (LeL.refl _) ?_
  refine Ok.wk (Wk.tab (L := [(1, (.s (List.map c_law04_Act p_l))), (2, (vi p_at)), (3, (.b 3 0)), (7, (vb x1)), (8, (vb x2)), (9, (vb x3))]) (H' := [(3, .box [(.s (List.map c_api_Page p_d.Synced)), (.s (List.map c_api_Page p_d.Loose)), (vb p_d.Down)])]) ⟨Le.refl _, Le.refl _, Le.refl _, Le.refl _, Le.refl _, Le.refl _, True.intro⟩ ⟨⟨_, rfl, .refl _⟩, True.intro⟩ rfl) ?_
  refine Ok.seq ?_
  obtain ⟨v1, hv1, h⟩ := bindS h
  refine Ok.seqw ⟨Cat.tab [(1, (.s (List.map c_law04_Act p_l))), (2, (vi p_at)), (3, (.b 3 0)), (7, (vb x1)), (8, (vb x2)), (9, (vb x3)), (36, (vb v1))], [(3, .box [(.s (List.map c_api_Page p_d.Synced)), (.s (List.map c_api_Page p_d.Loose)), (vb p_d.Down)])]⟩ ?_ ?_
  · refine Ok.region Try.tok ?_
    obtain ⟨c1, hg1, hv1⟩ := bindS hv1
    refine Br.itf hg1 (fun hb hg1 => ?_) fun hb hg1 => ?_
    · cases hg1
      cases hv1
      exact Wk.tab ⟨Le.refl _, Le.refl _, Le.refl _, Le.refl _, Le.refl _, Le.refl _, Le.refl _, True.intro⟩ ⟨⟨_, rfl, .refl _⟩, True.intro⟩ rfl
    · refine ⟨_, List.length_map _, fun _ => ?_⟩
      cases hg1
      cases hv1
      exact Wk.tab ⟨Le.refl _, Le.refl _, Le.refl _, Le.refl _, Le.refl _, Le.refl _, Le.refl _, True.intro⟩ ⟨⟨_, rfl, .refl _⟩, True.intro⟩ rfl
  refine Ok.cond (d := 36) (b := v1) rfl h (fun hb h => ?_) fun hb h => ?_
  · obtain ⟨v2, hv2, h⟩ := bindS h
    refine Ok.seqw ⟨Cat.tab [(6, (vb v2))], []⟩ ?_ ?_
    · refine Ok.region Try.tok ?_
      obtain ⟨c5, hg2, hv2⟩ := bindS hv2
      refine Br.ite hg2 (fun hb hg2 => ?_) fun hb hg2 => ?_
      · refine ⟨_, rfl, ⟨_, List.length_map _, fun _ => ?_⟩⟩
        obtain ⟨c2, hg3, hg2⟩ := bindS hg2
        refine Br.itf hg3 (fun hb hg3 => ?_) fun hb hg3 => ?_
        · cases hg3
          obtain ⟨c3, hg4, hg2⟩ := bindS hg2
          replace hg4 := iteT hg4
          cases hg4
          obtain ⟨c4, hg5, hg2⟩ := bindS hg2
          replace hg5 := iteT hg5
          cases hg5
          cases hg2
          cases hv2
          exact Wk.tab ⟨Le.refl _, True.intro⟩ True.intro rfl
        · refine ⟨_, rfl, ⟨_, List.length_map _, fun _ => ?_⟩⟩
          cases hg3
          obtain ⟨c3, hg6, hg2⟩ := bindS hg2
          refine Br.itf hg6 (fun hb hg6 => ?_) fun hb hg6 => ?_
          · cases hg6
            obtain ⟨c4, hg7, hg2⟩ := bindS hg2
            replace hg7 := iteT hg7
            cases hg7
            cases hg2
            cases hv2
            exact Wk.tab ⟨Le.refl _, True.intro⟩ True.intro rfl
          · refine ⟨_, List.length_map _, fun _ => ?_⟩
            cases hg6
            obtain ⟨c4, hg8, hg2⟩ := bindS hg2
            refine Br.itf hg8 (fun hb hg8 => ?_) fun hb hg8 => ?_
            · cases hg8
              cases hg2
              cases hv2
              exact Wk.tab ⟨Le.refl _, True.intro⟩ True.intro rfl
            · cases hg8
              cases hg2
              cases hv2
              exact Wk.tab ⟨Le.refl _, True.intro⟩ True.intro rfl
      · cases hg2
        cases hv2
        exact Wk.tab ⟨Le.refl _, True.intro⟩ True.intro rfl
    refine Ok.ret ?_
    cases h
    exact Fz.v
  · refine Ok.skip ?_
    refine Ok.seq ?_
    refine Ok.region Try.tok ?_
    obtain ⟨x4, hx4, h⟩ := bindS h
    refine ⟨_, rfl, ?_⟩
    refine CallOk.call (w_law04_own hx4) (LeL.refl _) ?_
    refine ⟨_, rfl, ?_⟩
    refine Ok.wk (Wk.tab (L := [(1, (.s (List.map c_law04_Act p_l))), (2, (vi p_at)), (3, (.b 3 0)), (7, (vb x1)), (8, (vb x2)), (10, (.b 10 0))]) (H' := [(3, .box [(.s (List.map c_api_Page p_d.Synced)), (.s (List.map c_api_Page p_d.Loose)), (vb p_d.Down)]), (10, .box [(.s (List.map c_api_Page x4.Synced)), (.s (List.map c_api_Page x4.Loose)), (vb x4.Down)])]) ⟨Le.refl _, Le.refl _, Le.refl _, Le.refl _, Le.refl _, Le.refl _, True.intro⟩ ⟨⟨_, rfl, .refl _⟩, ⟨_, rfl, .refl _⟩, True.intro⟩ rfl) ?_
    refine Ok.seq ?_
    refine Ok.region Try.tok ?_
    obtain ⟨x5, hx5, h⟩ := bindS h
    refine ⟨_, rfl, ?_⟩
    refine CallOk.call (w_law04_own hx5) (LeL.refl _) ?_
    refine ⟨_, rfl, ?_⟩
    refine Ok.wk (Wk.tab (L := [(1, (.s (List.map c_law04_Act p_l))), (2, (vi p_at)), (7, (vb x1)), (8, (vb x2)), (10, (.b 10 0)), (11, (.b 11 0))]) (H' := [(10, .box [(.s (List.map c_api_Page x4.Synced)), (.s (List.map c_api_Page x4.Loose)), (vb x4.Down)]), (11, .box [(.s (List.map c_api_Page x5.Synced)), (.s (List.map c_api_Page x5.Loose)), (vb x5.Down)])]) ⟨Le.refl _, Le.refl _, Le.refl _, Le.refl _, Le.refl _, Le.refl _, True.intro⟩ ⟨⟨_, rfl, .refl _⟩, ⟨_, rfl, .refl _⟩, True.intro⟩ rfl) ?_
    refine Ok.seqj (fun v3 => ⟨Cat.tab [(7, (vb x1)), (8, (vb x2))], []⟩) (fun v3 => law04_DiskTells_J1 x1 x2 v3 = some r) ?_ ?_
    · refine Ok.seq ?_
      refine Ok.region Try.tok ?_
      refine Ok.wk (Wk.tab (L := [(1, (.s (List.map c_law04_Act p_l))), (2, (vi p_at)), (7, (vb x1)), (8, (vb x2)), (10, (.b 10 0)), (11, (.b 11 0)), (12, (vi (0)))]) (H' := [(10, .box [(.s (List.map c_api_Page x4.Synced)), (.s (List.map c_api_Page x4.Loose)), (vb x4.Down)]), (11, .box [(.s (List.map c_api_Page x5.Synced)), (.s (List.map c_api_Page x5.Loose)), (vb x5.Down)])]) ⟨Le.refl _, Le.refl _, Le.refl _, Le.refl _, Le.refl _, Le.refl _, Le.refl _, True.intro⟩ ⟨⟨_, rfl, .refl _⟩, ⟨_, rfl, .refl _⟩, True.intro⟩ rfl) ?_
      refine Ok.block ?_
      refine Ok.loop (fun (s1 : Int × (List api_Page) × (List api_Page) × Bool × (List api_Page) × (List api_Page) × Bool) => ⟨Cat.tab [(1, (.s (List.map c_law04_Act p_l))), (2, (vi p_at)), (7, (vb x1)), (8, (vb x2)), (10, (.b 10 0)), (11, (.b 11 0)), (12, (vi s1.1))], [(10, .box [(.s (List.map c_api_Page s1.2.1)), (.s (List.map c_api_Page s1.2.2.1)), (vb s1.2.2.2.1)]), (11, .box [(.s (List.map c_api_Page s1.2.2.2.2.1)), (.s (List.map c_api_Page s1.2.2.2.2.2.1)), (vb s1.2.2.2.2.2.2)])]⟩) (law04_DiskTells_B1 p_l p_at x1 x2) (s0 := (0, x4.Synced, x4.Loose, x4.Down, x5.Synced, x5.Loose, x5.Down)) h (Wk.tab ⟨Le.refl _, Le.refl _, Le.refl _, Le.refl _, Le.refl _, Le.refl _, Le.refl _, True.intro⟩ ⟨⟨_, rfl, .refl _⟩, ⟨_, rfl, .refl _⟩, True.intro⟩ rfl) ?_
      intro s1 y1 hB1 hy1
      unfold law04_DiskTells_B1 at hB1
      refine Ok.seq ?_
      refine Ok.seq ?_
      refine Ok.region Try.tok ?_
      refine ⟨_, List.length_map _, fun _ => ?_⟩
      refine Ok.wk (Wk.tab (L := [(1, (.s (List.map c_law04_Act p_l))), (2, (vi p_at)), (7, (vb x1)), (8, (vb x2)), (10, (.b 10 0)), (11, (.b 11 0)), (12, (vi s1.1)), (67, (vb ((decide (s1.1 < (p_l.length : Int))))))]) (H' := [(10, .box [(.s (List.map c_api_Page s1.2.1)), (.s (List.map c_api_Page s1.2.2.1)), (vb s1.2.2.2.1)]), (11, .box [(.s (List.map c_api_Page s1.2.2.2.2.1)), (.s (List.map c_api_Page s1.2.2.2.2.2.1)), (vb s1.2.2.2.2.2.2)])]) ⟨Le.refl _, Le.refl _, Le.refl _, Le.refl _, Le.refl _, Le.refl _, Le.refl _, Le.refl _, True.intro⟩ ⟨⟨_, rfl, .refl _⟩, ⟨_, rfl, .refl _⟩, True.intro⟩ rfl) ?_
      refine Ok.cond (d := 67) (b := (decide (s1.1 < (p_l.length : Int)))) rfl hB1 (fun hb hB1 => ?_) fun hb hB1 => ?_
      · refine Ok.skip ?_
        refine Ok.seq ?_
        refine Ok.block ?_
        refine Ok.seq ?_
        refine Ok.region Try.tok ?_
        obtain ⟨x6, hx6, hB1⟩ := bindS hB1
        refine ⟨_, rfl, ?_⟩
        refine CallOk.call (w_law04_own hx6) (LeL.refl _) ?_
        refine ⟨_, rfl, ?_⟩
        refine Ok.wk (Wk.tab (L := [(1, (.s (List.map c_law04_Act p_l))), (2, (vi p_at)), (7, (vb x1)), (8, (vb x2)), (10, (.b 10 0)), (11, (.b 11 0)), (12, (vi s1.1)), (13, (.b 13 0))]) (H' := [(10, .box [(.s (List.map c_api_Page s1.2.1)), (.s (List.map c_api_Page s1.2.2.1)), (vb s1.2.2.2.1)]), (11, .box [(.s (List.map c_api_Page s1.2.2.2.2.1)), (.s (List.map c_api_Page s1.2.2.2.2.2.1)), (vb s1.2.2.2.2.2.2)]), (13, .box [(.s (List.map c_api_Page x6.Synced)), (.s (List.map c_api_Page x6.Loose)), (vb x6.Down)])]) ⟨Le.refl _, Le.refl _, Le.refl _, Le.refl _, Le.refl _, Le.refl _, Le.refl _, Le.refl _, True.intro⟩ ⟨⟨_, rfl, .refl _⟩, ⟨_, rfl, .refl _⟩, ⟨_, rfl, .refl _⟩, True.intro⟩ rfl) ?_
        refine Ok.seq ?_
        refine Ok.draw2 (m := 10) (late := [8]) (MD := ⟨[]⟩) (CH := ⟨[]⟩) Try.tok Try.mixed (by kernel_rfl) ?_
        obtain ⟨x7, hx7, hB1⟩ := bindS hB1
        obtain ⟨x8, hx8, hB1⟩ := bindS hB1
        refine ⟨_, ⟨_, rfl, rfl⟩, ⟨_, rfl, ⟨_, rfl, ⟨_, ⟨_, idx_nat hx7, _, idx_row hx7, rfl⟩, ⟨_, ⟨_, rfl, rfl⟩, ⟨_, ⟨_, .of_pure (w_law04_step hx8) (LeL.refl _), rfl⟩, ⟨_, rfl, ⟨_, rfl, ⟨_, rfl, ⟨True.intro, ?_⟩⟩⟩⟩⟩⟩⟩⟩⟩⟩
        refine ⟨_, rfl, ⟨⟨⟨_, rfl, rfl⟩, True.intro⟩, ?_⟩⟩
        refine Ok.wk (Wk.tab (L := [(1, (.s (List.map c_law04_Act p_l))), (2, (vi p_at)), (7, (vb x1)), (8, (vb x2)), (10, (.b 10 0)), (11, (.b 11 0)), (12, (vi s1.1)), (13, (.b 13 0)), (14, (.b 14 0)), (15, (vi x8.2))]) (H' := [(10, .box [(.s (List.map c_api_Page s1.2.1)), (.s (List.map c_api_Page s1.2.2.1)), (vb s1.2.2.2.1)]), (11, .box [(.s (List.map c_api_Page s1.2.2.2.2.1)), (.s (List.map c_api_Page s1.2.2.2.2.2.1)), (vb s1.2.2.2.2.2.2)]), (13, .box [(.s (List.map c_api_Page x6.Synced)), (.s (List.map c_api_Page x6.Loose)), (vb x6.Down)]), (14, .box [(.s (List.map c_api_Page x8.1.Synced)), (.s (List.map c_api_Page x8.1.Loose)), (vb x8.1.Down)])]) ⟨Le.refl _, Le.refl _, Le.refl _, Le.refl _, Le.refl _, Le.refl _, Le.refl _, Le.refl _, Le.refl _, Le.refl _, True.intro⟩ ⟨⟨_, rfl, .refl _⟩, ⟨_, rfl, .refl _⟩, ⟨_, rfl, .refl _⟩, ⟨_, rfl, .refl _⟩, True.intro⟩ rfl) ?_
        refine Ok.seq ?_
        refine Ok.draw2 (m := 10) (late := [8]) (MD := ⟨[]⟩) (CH := ⟨[]⟩) Try.tok Try.mixed (by kernel_rfl) ?_
        obtain ⟨x9, hx9, hB1⟩ := bindS hB1
        obtain ⟨x10, hx10, hB1⟩ := bindS hB1
        refine ⟨_, ⟨_, rfl, rfl⟩, ⟨_, rfl, ⟨_, rfl, ⟨_, ⟨_, idx_nat hx9, _, idx_row hx9, rfl⟩, ⟨_, ⟨_, rfl, rfl⟩, ⟨_, ⟨_, .of_pure (w_law04_told hx10) (LeL.refl _), rfl⟩, ⟨_, rfl, ⟨_, rfl, ⟨_, rfl, ⟨True.intro, ?_⟩⟩⟩⟩⟩⟩⟩⟩⟩⟩
        refine ⟨_, rfl, ⟨⟨⟨_, rfl, rfl⟩, True.intro⟩, ?_⟩⟩
        refine Ok.wk (Wk.tab (L := [(1, (.s (List.map c_law04_Act p_l))), (2, (vi p_at)), (7, (vb x1)), (8, (vb x2)), (10, (.b 10 0)), (11, (.b 11 0)), (12, (vi s1.1)), (13, (.b 13 0)), (14, (.b 14 0)), (15, (vi x8.2)), (16, (.b 16 0)), (17, (vi x10.2))]) (H' := [(10, .box [(.s (List.map c_api_Page s1.2.1)), (.s (List.map c_api_Page s1.2.2.1)), (vb s1.2.2.2.1)]), (11, .box [(.s (List.map c_api_Page s1.2.2.2.2.1)), (.s (List.map c_api_Page s1.2.2.2.2.2.1)), (vb s1.2.2.2.2.2.2)]), (13, .box [(.s (List.map c_api_Page x6.Synced)), (.s (List.map c_api_Page x6.Loose)), (vb x6.Down)]), (14, .box [(.s (List.map c_api_Page x8.1.Synced)), (.s (List.map c_api_Page x8.1.Loose)), (vb x8.1.Down)]), (16, .box [(.s (List.map c_api_Page x10.1.Synced)), (.s (List.map c_api_Page x10.1.Loose)), (vb x10.1.Down)])]) ⟨Le.refl _, Le.refl _, Le.refl _, Le.refl _, Le.refl _, Le.refl _, Le.refl _, Le.refl _, Le.refl _, Le.refl _, Le.refl _, Le.refl _, True.intro⟩ ⟨⟨_, rfl, .refl _⟩, ⟨_, rfl, .refl _⟩, ⟨_, rfl, .refl _⟩, ⟨_, rfl, .refl _⟩, ⟨_, rfl, .refl _⟩, True.intro⟩ rfl) ?_
        refine Ok.seq ?_
        refine Ok.region Try.tok ?_
        obtain ⟨x11, hx11, hB1⟩ := bindS hB1
        refine ⟨_, rfl, ⟨_, rfl, ?_⟩⟩
        refine CallOk.call (w_ref04_Same hx11) (LeL.refl _) ?_
        refine Ok.wk (Wk.tab (L := [(1, (.s (List.map c_law04_Act p_l))), (2, (vi p_at)), (7, (vb x1)), (8, (vb x2)), (10, (.b 10 0)), (11, (.b 11 0)), (12, (vi s1.1)), (13, (.b 13 0)), (14, (.b 14 0)), (15, (vi x8.2)), (16, (.b 16 0)), (17, (vi x10.2)), (18, (vb x11))]) (H' := [(10, .box [(.s (List.map c_api_Page s1.2.1)), (.s (List.map c_api_Page s1.2.2.1)), (vb s1.2.2.2.1)]), (11, .box [(.s (List.map c_api_Page s1.2.2.2.2.1)), (.s (List.map c_api_Page s1.2.2.2.2.2.1)), (vb s1.2.2.2.2.2.2)]), (13, .box [(.s (List.map c_api_Page x6.Synced)), (.s (List.map c_api_Page x6.Loose)), (vb x6.Down)]), (14, .box [(.s (List.map c_api_Page x8.1.Synced)), (.s (List.map c_api_Page x8.1.Loose)), (vb x8.1.Down)]), (16, .box [(.s (List.map c_api_Page x10.1.Synced)), (.s (List.map c_api_Page x10.1.Loose)), (vb x10.1.Down)])]) ⟨Le.refl _, Le.refl _, Le.refl _, Le.refl _, Le.refl _, Le.refl _, Le.refl _, Le.refl _, Le.refl _, Le.refl _, Le.refl _, Le.refl _, Le.refl _, True.intro⟩ ⟨⟨_, rfl, .refl _⟩, ⟨_, rfl, .refl _⟩, ⟨_, rfl, .refl _⟩, ⟨_, rfl, .refl _⟩, ⟨_, rfl, .refl _⟩, True.intro⟩ rfl) ?_
        refine Ok.seq ?_
        refine Ok.region Try.tok ?_
        obtain ⟨x12, hx12, hB1⟩ := bindS hB1
        refine ⟨_, rfl, ⟨_, rfl, ?_⟩⟩
        refine CallOk.call (w_ref04_Same hx12) (LeL.refl _) ?_
        refine Ok.wk (Wk.tab (L := [(1, (.s (List.map c_law04_Act p_l))), (2, (vi p_at)), (7, (vb x1)), (8, (vb x2)), (10, (.b 10 0)), (11, (.b 11 0)), (12, (vi s1.1)), (14, (.b 14 0)), (15, (vi x8.2)), (16, (.b 16 0)), (17, (vi x10.2)), (18, (vb x11)), (19, (vb x12))]) (H' := [(10, .box [(.s (List.map c_api_Page s1.2.1)), (.s (List.map c_api_Page s1.2.2.1)), (vb s1.2.2.2.1)]), (11, .box [(.s (List.map c_api_Page s1.2.2.2.2.1)), (.s (List.map c_api_Page s1.2.2.2.2.2.1)), (vb s1.2.2.2.2.2.2)]), (14, .box [(.s (List.map c_api_Page x8.1.Synced)), (.s (List.map c_api_Page x8.1.Loose)), (vb x8.1.Down)]), (16, .box [(.s (List.map c_api_Page x10.1.Synced)), (.s (List.map c_api_Page x10.1.Loose)), (vb x10.1.Down)])]) ⟨Le.refl _, Le.refl _, Le.refl _, Le.refl _, Le.refl _, Le.refl _, Le.refl _, Le.refl _, Le.refl _, Le.refl _, Le.refl _, Le.refl _, Le.refl _, True.intro⟩ ⟨⟨_, rfl, .refl _⟩, ⟨_, rfl, .refl _⟩, ⟨_, rfl, .refl _⟩, ⟨_, rfl, .refl _⟩, True.intro⟩ rfl) ?_
        refine Ok.seq ?_
        obtain ⟨v4, hv4, hB1⟩ := bindS hB1
        refine Ok.seqw ⟨Cat.tab [(1, (.s (List.map c_law04_Act p_l))), (2, (vi p_at)), (7, (vb x1)), (8, (vb x2)), (10, (.b 10 0)), (11, (.b 11 0)), (12, (vi s1.1)), (14, (.b 14 0)), (16, (.b 16 0)), (111, (vb v4))], [(10, .box [(.s (List.map c_api_Page s1.2.1)), (.s (List.map c_api_Page s1.2.2.1)), (vb s1.2.2.2.1)]), (11, .box [(.s (List.map c_api_Page s1.2.2.2.2.1)), (.s (List.map c_api_Page s1.2.2.2.2.2.1)), (vb s1.2.2.2.2.2.2)]), (14, .box [(.s (List.map c_api_Page x8.1.Synced)), (.s (List.map c_api_Page x8.1.Loose)), (vb x8.1.Down)]), (16, .box [(.s (List.map c_api_Page x10.1.Synced)), (.s (List.map c_api_Page x10.1.Loose)), (vb x10.1.Down)])]⟩ ?_ ?_
        · refine Ok.region Try.tok ?_
          obtain ⟨c6, hg9, hv4⟩ := bindS hv4
          refine Br.itf hg9 (fun hb hg9 => ?_) fun hb hg9 => ?_
          · cases hg9
            obtain ⟨c7, hg10, hv4⟩ := bindS hv4
            replace hg10 := iteT hg10
            cases hg10
            obtain ⟨c8, hg11, hv4⟩ := bindS hv4
            replace hg11 := iteT hg11
            cases hg11
            cases hv4
            exact Wk.tab ⟨Le.refl _, Le.refl _, Le.refl _, Le.refl _, Le.refl _, Le.refl _, Le.refl _, Le.refl _, Le.refl _, Le.refl _, True.intro⟩ ⟨⟨_, rfl, .refl _⟩, ⟨_, rfl, .refl _⟩, ⟨_, rfl, .refl _⟩, ⟨_, rfl, .refl _⟩, True.intro⟩ rfl
          · cases hg9
            obtain ⟨c7, hg12, hv4⟩ := bindS hv4
            refine Br.itf hg12 (fun hb hg12 => ?_) fun hb hg12 => ?_
            · cases hg12
              obtain ⟨c8, hg13, hv4⟩ := bindS hv4
              replace hg13 := iteT hg13
              cases hg13
              cases hv4
              exact Wk.tab ⟨Le.refl _, Le.refl _, Le.refl _, Le.refl _, Le.refl _, Le.refl _, Le.refl _, Le.refl _, Le.refl _, Le.refl _, True.intro⟩ ⟨⟨_, rfl, .refl _⟩, ⟨_, rfl, .refl _⟩, ⟨_, rfl, .refl _⟩, ⟨_, rfl, .refl _⟩, True.intro⟩ rfl
            · cases hg12
              obtain ⟨c8, hg14, hv4⟩ := bindS hv4
              refine Br.itf hg14 (fun hb hg14 => ?_) fun hb hg14 => ?_
              · cases hg14
                cases hv4
                exact Wk.tab ⟨Le.refl _, Le.refl _, Le.refl _, Le.refl _, Le.refl _, Le.refl _, Le.refl _, Le.refl _, Le.refl _, Le.refl _, True.intro⟩ ⟨⟨_, rfl, .refl _⟩, ⟨_, rfl, .refl _⟩, ⟨_, rfl, .refl _⟩, ⟨_, rfl, .refl _⟩, True.intro⟩ rfl
              · obtain ⟨x13, hx13, hg14⟩ := bindS hg14
                refine ⟨_, rfl, ?_⟩
                refine CallOk.call (w_disk_Right hx13) (LeL.refl _) ?_
                cases hg14
                cases hv4
                exact Wk.tab ⟨Le.refl _, Le.refl _, Le.refl _, Le.refl _, Le.refl _, Le.refl _, Le.refl _, Le.refl _, Le.refl _, Le.refl _, True.intro⟩ ⟨⟨_, rfl, .refl _⟩, ⟨_, rfl, .refl _⟩, ⟨_, rfl, .refl _⟩, ⟨_, rfl, .refl _⟩, True.intro⟩ rfl
        refine Ok.cond (d := 111) (b := v4) rfl hB1 (fun hb hB1 => ?_) fun hb hB1 => ?_
        · refine Ok.seq ?_
          refine Ok.region Try.tok ?_
          refine Ok.wk (Wk.tab (L := [(6, (vb false))]) (H' := []) ⟨Le.refl _, True.intro⟩ True.intro rfl) ?_
          refine Ok.ret ?_
          have hB1 := out_ret hB1 hy1
          cases hB1
          exact Fz.v
        · refine Ok.skip ?_
          refine Ok.seq ?_
          refine Ok.region Try.tok ?_
          obtain ⟨x14, hx14, hB1⟩ := bindS hB1
          refine ⟨_, rfl, ?_⟩
          refine CallOk.call (w_disk_Read hx14) (LeL.refl _) ?_
          refine Ok.wk (Wk.tab (L := [(1, (.s (List.map c_law04_Act p_l))), (2, (vi p_at)), (7, (vb x1)), (8, (vb x2)), (10, (.b 10 0)), (11, (.b 11 0)), (12, (vi s1.1)), (14, (.b 14 0)), (16, (.b 16 0)), (20, (.s (List.map cU8 x14.1))), (21, (vi x14.2))]) (H' := [(10, .box [(.s (List.map c_api_Page s1.2.1)), (.s (List.map c_api_Page s1.2.2.1)), (vb s1.2.2.2.1)]), (11, .box [(.s (List.map c_api_Page s1.2.2.2.2.1)), (.s (List.map c_api_Page s1.2.2.2.2.2.1)), (vb s1.2.2.2.2.2.2)]), (14, .box [(.s (List.map c_api_Page x8.1.Synced)), (.s (List.map c_api_Page x8.1.Loose)), (vb x8.1.Down)]), (16, .box [(.s (List.map c_api_Page x10.1.Synced)), (.s (List.map c_api_Page x10.1.Loose)), (vb x10.1.Down)])]) ⟨Le.refl _, Le.refl _, Le.refl _, Le.refl _, Le.refl _, Le.refl _, Le.refl _, Le.refl _, Le.refl _, Le.refl _, Le.refl _, True.intro⟩ ⟨⟨_, rfl, .refl _⟩, ⟨_, rfl, .refl _⟩, ⟨_, rfl, .refl _⟩, ⟨_, rfl, .refl _⟩, True.intro⟩ rfl) ?_
          refine Ok.seq ?_
          refine Ok.region Try.tok ?_
          obtain ⟨x15, hx15, hB1⟩ := bindS hB1
          refine ⟨_, rfl, ?_⟩
          refine CallOk.call (w_ref04_Read hx15) (LeL.refl _) ?_
          refine Ok.wk (Wk.tab (L := [(1, (.s (List.map c_law04_Act p_l))), (2, (vi p_at)), (7, (vb x1)), (8, (vb x2)), (10, (.b 10 0)), (11, (.b 11 0)), (12, (vi s1.1)), (14, (.b 14 0)), (16, (.b 16 0)), (20, (.s (List.map cU8 x14.1))), (21, (vi x14.2)), (22, (.s (List.map cU8 x15.1))), (23, (vi x15.2))]) (H' := [(10, .box [(.s (List.map c_api_Page s1.2.1)), (.s (List.map c_api_Page s1.2.2.1)), (vb s1.2.2.2.1)]), (11, .box [(.s (List.map c_api_Page s1.2.2.2.2.1)), (.s (List.map c_api_Page s1.2.2.2.2.2.1)), (vb s1.2.2.2.2.2.2)]), (14, .box [(.s (List.map c_api_Page x8.1.Synced)), (.s (List.map c_api_Page x8.1.Loose)), (vb x8.1.Down)]), (16, .box [(.s (List.map c_api_Page x10.1.Synced)), (.s (List.map c_api_Page x10.1.Loose)), (vb x10.1.Down)])]) ⟨Le.refl _, Le.refl _, Le.refl _, Le.refl _, Le.refl _, Le.refl _, Le.refl _, Le.refl _, Le.refl _, Le.refl _, Le.refl _, Le.refl _, Le.refl _, True.intro⟩ ⟨⟨_, rfl, .refl _⟩, ⟨_, rfl, .refl _⟩, ⟨_, rfl, .refl _⟩, ⟨_, rfl, .refl _⟩, True.intro⟩ rfl) ?_
          refine Ok.seq ?_
          refine Ok.region Try.tok ?_
          obtain ⟨x16, hx16, hB1⟩ := bindS hB1
          refine CallOk.call (w_ref04_Bytes hx16) (LeL.refl _) ?_
          refine Ok.wk (Wk.tab (L := [(1, (.s (List.map c_law04_Act p_l))), (2, (vi p_at)), (7, (vb x1)), (8, (vb x2)), (10, (.b 10 0)), (11, (.b 11 0)), (12, (vi s1.1)), (14, (.b 14 0)), (16, (.b 16 0)), (21, (vi x14.2)), (23, (vi x15.2)), (24, (vb x16))]) (H' := [(10, .box [(.s (List.map c_api_Page s1.2.1)), (.s (List.map c_api_Page s1.2.2.1)), (vb s1.2.2.2.1)]), (11, .box [(.s (List.map c_api_Page s1.2.2.2.2.1)), (.s (List.map c_api_Page s1.2.2.2.2.2.1)), (vb s1.2.2.2.2.2.2)]), (14, .box [(.s (List.map c_api_Page x8.1.Synced)), (.s (List.map c_api_Page x8.1.Loose)), (vb x8.1.Down)]), (16, .box [(.s (List.map c_api_Page x10.1.Synced)), (.s (List.map c_api_Page x10.1.Loose)), (vb x10.1.Down)])]) ⟨Le.refl _, Le.refl _, Le.refl _, Le.refl _, Le.refl _, Le.refl _, Le.refl _, Le.refl _, Le.refl _, Le.refl _, Le.refl _, Le.refl _, True.intro⟩ ⟨⟨_, rfl, .refl _⟩, ⟨_, rfl, .refl _⟩, ⟨_, rfl, .refl _⟩, ⟨_, rfl, .refl _⟩, True.intro⟩ rfl) ?_
          refine Ok.seq ?_
          obtain ⟨v5, hv5, hB1⟩ := bindS hB1
          refine Ok.seqw ⟨Cat.tab [(1, (.s (List.map c_law04_Act p_l))), (2, (vi p_at)), (7, (vb x1)), (8, (vb x2)), (10, (.b 10 0)), (11, (.b 11 0)), (12, (vi s1.1)), (14, (.b 14 0)), (16, (.b 16 0)), (133, (vb v5))], [(10, .box [(.s (List.map c_api_Page s1.2.1)), (.s (List.map c_api_Page s1.2.2.1)), (vb s1.2.2.2.1)]), (11, .box [(.s (List.map c_api_Page s1.2.2.2.2.1)), (.s (List.map c_api_Page s1.2.2.2.2.2.1)), (vb s1.2.2.2.2.2.2)]), (14, .box [(.s (List.map c_api_Page x8.1.Synced)), (.s (List.map c_api_Page x8.1.Loose)), (vb x8.1.Down)]), (16, .box [(.s (List.map c_api_Page x10.1.Synced)), (.s (List.map c_api_Page x10.1.Loose)), (vb x10.1.Down)])]⟩ ?_ ?_
          · refine Ok.region Try.tok ?_
            obtain ⟨c9, hg15, hv5⟩ := bindS hv5
            refine Br.itf hg15 (fun hb hg15 => ?_) fun hb hg15 => ?_
            · cases hg15
              cases hv5
              exact Wk.tab ⟨Le.refl _, Le.refl _, Le.refl _, Le.refl _, Le.refl _, Le.refl _, Le.refl _, Le.refl _, Le.refl _, Le.refl _, True.intro⟩ ⟨⟨_, rfl, .refl _⟩, ⟨_, rfl, .refl _⟩, ⟨_, rfl, .refl _⟩, ⟨_, rfl, .refl _⟩, True.intro⟩ rfl
            · cases hg15
              cases hv5
              exact Wk.tab ⟨Le.refl _, Le.refl _, Le.refl _, Le.refl _, Le.refl _, Le.refl _, Le.refl _, Le.refl _, Le.refl _, Le.refl _, True.intro⟩ ⟨⟨_, rfl, .refl _⟩, ⟨_, rfl, .refl _⟩, ⟨_, rfl, .refl _⟩, ⟨_, rfl, .refl _⟩, True.intro⟩ rfl
          refine Ok.cond (d := 133) (b := v5) rfl hB1 (fun hb hB1 => ?_) fun hb hB1 => ?_
          · refine Ok.seq ?_
            refine Ok.region Try.tok ?_
            refine Ok.wk (Wk.tab (L := [(6, (vb false))]) (H' := []) ⟨Le.refl _, True.intro⟩ True.intro rfl) ?_
            refine Ok.ret ?_
            have hB1 := out_ret hB1 hy1
            cases hB1
            exact Fz.v
          · refine Ok.skip ?_
            refine Ok.seq ?_
            refine Ok.region Try.tok ?_
            refine ⟨_, rfl, ⟨_, rfl, ?_⟩⟩
            refine Ok.wk (Wk.tab (L := [(1, (.s (List.map c_law04_Act p_l))), (2, (vi p_at)), (7, (vb x1)), (8, (vb x2)), (10, (.b 10 0)), (11, (.b 11 0)), (12, (vi s1.1)), (16, (.b 16 0))]) (H' := [(10, .box [(.s (List.map c_api_Page x8.1.Synced)), (.s (List.map c_api_Page x8.1.Loose)), (vb x8.1.Down)]), (11, .box [(.s (List.map c_api_Page s1.2.2.2.2.1)), (.s (List.map c_api_Page s1.2.2.2.2.2.1)), (vb s1.2.2.2.2.2.2)]), (16, .box [(.s (List.map c_api_Page x10.1.Synced)), (.s (List.map c_api_Page x10.1.Loose)), (vb x10.1.Down)])]) ⟨Le.refl _, Le.refl _, Le.refl _, Le.refl _, Le.refl _, Le.refl _, Le.refl _, Le.refl _, True.intro⟩ ⟨⟨_, rfl, .refl _⟩, ⟨_, rfl, .refl _⟩, ⟨_, rfl, .refl _⟩, True.intro⟩ rfl) ?_
            refine Ok.region Try.tok ?_
            refine ⟨_, rfl, ⟨_, rfl, ?_⟩⟩
            refine Ok.wk (Wk.tab (L := [(1, (.s (List.map c_law04_Act p_l))), (2, (vi p_at)), (7, (vb x1)), (8, (vb x2)), (10, (.b 10 0)), (11, (.b 11 0)), (12, (vi s1.1))]) (H' := [(10, .box [(.s (List.map c_api_Page x8.1.Synced)), (.s (List.map c_api_Page x8.1.Loose)), (vb x8.1.Down)]), (11, .box [(.s (List.map c_api_Page x10.1.Synced)), (.s (List.map c_api_Page x10.1.Loose)), (vb x10.1.Down)])]) ⟨Le.refl _, Le.refl _, Le.refl _, Le.refl _, Le.refl _, Le.refl _, Le.refl _, True.intro⟩ ⟨⟨_, rfl, .refl _⟩, ⟨_, rfl, .refl _⟩, True.intro⟩ rfl) ?_
            refine Ok.region Try.tok ?_
            obtain ⟨hc1, hB1⟩ := chk_some hB1
            refine (Or.inl ⟨hc1, ?_⟩)
            exact ⟨_, (Option.some.inj hB1).symm, Wk.tab ⟨Le.refl _, Le.refl _, Le.refl _, Le.refl _, Le.refl _, Le.refl _, Le.refl _, True.intro⟩ ⟨⟨_, rfl, .refl _⟩, ⟨_, rfl, .refl _⟩, True.intro⟩ rfl⟩
      · refine Ok.exit ?_
        have hB1 := out_ret hB1 hy1
        exact ⟨_, hB1, Wk.tab ⟨Le.refl _, Le.refl _, True.intro⟩ True.intro rfl⟩
    intro v3 h
    unfold law04_DiskTells_J1 at h
    obtain ⟨v6, hv6, h⟩ := bindS h
    refine Ok.seqw ⟨Cat.tab [(6, (vb v6))], []⟩ ?_ ?_
    · refine Ok.region Try.tok ?_
      obtain ⟨c10, hg16, hv6⟩ := bindS hv6
      refine Br.ite hg16 (fun hb hg16 => ?_) fun hb hg16 => ?_
      · cases hg16
        cases hv6
        exact Wk.tab ⟨Le.refl _, True.intro⟩ True.intro rfl
      · cases hg16
        cases hv6
        exact Wk.tab ⟨Le.refl _, True.intro⟩ True.intro rfl
    refine Ok.ret ?_
    cases h
    exact Fz.v

end Go.Proofs
