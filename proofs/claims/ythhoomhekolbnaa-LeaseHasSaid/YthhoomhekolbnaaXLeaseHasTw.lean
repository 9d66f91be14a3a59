/- The plain programs with a bound on their rounds: what these say the others say, too. No condition. -/
import Derived.Test.YthhoomhekolbnaaXLeaseHasSp
import Derived.Test.YthhoomhekolbnaaCatP6
namespace Go.Proofs
set_option linter.all false
open Go Go.Cat
set_option maxRecDepth 100000

def lease_kinded' (_n : Nat) (p_kind : Int) : Option Bool := ((if (p_kind == 1) then some true else some ((p_kind == 2))).bind fun c1 => some c1).bind fun v1 => some v1

theorem le_lease_kinded (n : Nat) (p_kind : Int) : Le0 (lease_kinded' n p_kind) (lease_kinded p_kind) := by
  unfold lease_kinded' lease_kinded
  repeat' (first | with_reducible refine Le0.bind ?_ (fun _ => ?_) | with_reducible refine Le0.ite ?_ ?_ | with_reducible refine Le0.chk ?_ | with_reducible refine Le0.out ?_ | with_reducible exact Le0.refl _)

def lease_spanned' (_n : Nat) (p_s : api_Span) : Option Bool := ((if (decide (p_s.From ≥ 0)) then some ((decide (p_s.From < p_s.To))) else some false).bind fun c1 => (if c1 then some ((decide (p_s.To ≤ 1099511627776))) else some false).bind fun c2 => some c2).bind fun v1 => some v1

theorem le_lease_spanned (n : Nat) (p_s : api_Span) : Le0 (lease_spanned' n p_s) (lease_spanned p_s) := by
  unfold lease_spanned' lease_spanned
  repeat' (first | with_reducible refine Le0.bind ?_ (fun _ => ?_) | with_reducible refine Le0.ite ?_ ?_ | with_reducible refine Le0.chk ?_ | with_reducible refine Le0.out ?_ | with_reducible exact Le0.refl _)

def lease_one' (n : Nat) (p_x : api_Lease) : Option Bool := ((if (decide (p_x.Client ≥ 0)) then some ((decide (p_x.Client < 16))) else some false).bind fun c1 => (if c1 then some ((decide (p_x.Ino ≥ 1))) else some false).bind fun c2 => (if c2 then (lease_kinded' n p_x.Kind).bind fun x1 => some x1 else some false).bind fun c3 => (if c3 then (lease_spanned' n p_x.Span).bind fun x2 => some x2 else some false).bind fun c4 => (if c4 then some ((decide (p_x.Until ≥ 0))) else some false).bind fun c5 => (if c5 then some ((decide (p_x.Until ≤ 4398046511104))) else some false).bind fun c6 => (if c6 then some ((decide (p_x.Epoch ≥ 0))) else some false).bind fun c7 => some c7).bind fun v1 => some v1

theorem le_lease_one (n : Nat) (p_x : api_Lease) : Le0 (lease_one' n p_x) (lease_one p_x) := by
  unfold lease_one' lease_one
  repeat' (first | with_reducible apply le_lease_kinded | with_reducible apply le_lease_spanned | with_reducible refine Le0.bind ?_ (fun _ => ?_) | with_reducible refine Le0.ite ?_ ?_ | with_reducible refine Le0.chk ?_ | with_reducible refine Le0.out ?_ | with_reducible exact Le0.refl _)

def lease_clash' (_n : Nat) (p_a : api_Lease) (p_b : api_Lease) : Option Bool := ((if (p_a.Client != p_b.Client) then some ((p_a.Ino == p_b.Ino)) else some false).bind fun c1 => (if c1 then (if (p_a.Kind == 2) then some true else some ((p_b.Kind == 2))).bind fun c2 => some c2 else some false).bind fun c3 => (if c3 then some ((decide ((max p_a.Span.From p_b.Span.From) < (min p_a.Span.To p_b.Span.To)))) else some false).bind fun c4 => some c4).bind fun v1 => some v1

theorem le_lease_clash (n : Nat) (p_a : api_Lease) (p_b : api_Lease) : Le0 (lease_clash' n p_a p_b) (lease_clash p_a p_b) := by
  unfold lease_clash' lease_clash
  repeat' (first | with_reducible refine Le0.bind ?_ (fun _ => ?_) | with_reducible refine Le0.ite ?_ ?_ | with_reducible refine Le0.chk ?_ | with_reducible refine Le0.out ?_ | with_reducible exact Le0.refl _)

def clock_within' (_n : Nat) (p_n : Int) (p_from : Int) (p_to : Int) : Option Int := some ((min ((max p_n p_from)) p_to))

theorem le_clock_within (n : Nat) (p_n : Int) (p_from : Int) (p_to : Int) : Le0 (clock_within' n p_n p_from p_to) (clock_within p_n p_from p_to) := by
  unfold clock_within' clock_within
  repeat' (first | with_reducible refine Le0.bind ?_ (fun _ => ?_) | with_reducible refine Le0.ite ?_ ?_ | with_reducible refine Le0.chk ?_ | with_reducible refine Le0.out ?_ | with_reducible exact Le0.refl _)

def clock_span_least' (_n : Nat) (p_r : Int) : Option Int := chk (InI64 (p_r * 999)) (some ((quoK .i64 ((p_r * 999)) (1000))))

theorem le_clock_span_least (n : Nat) (p_r : Int) : Le0 (clock_span_least' n p_r) (clock_span_least p_r) := by
  unfold clock_span_least' clock_span_least
  repeat' (first | with_reducible refine Le0.bind ?_ (fun _ => ?_) | with_reducible refine Le0.ite ?_ ?_ | with_reducible refine Le0.chk ?_ | with_reducible refine Le0.out ?_ | with_reducible exact Le0.refl _)

def clock_Wait_1' (n : Nat) (p_r : Int) (p_a1_0 : Int) : Option Bool := (clock_span_least' n p_r).bind fun x1 => some ((decide (x1 ≥ p_a1_0)))

theorem le_clock_Wait_1 (n : Nat) (p_r : Int) (p_a1_0 : Int) : Le0 (clock_Wait_1' n p_r p_a1_0) (clock_Wait_1 p_r p_a1_0) := by
  unfold clock_Wait_1' clock_Wait_1
  repeat' (first | with_reducible apply le_clock_span_least | with_reducible refine Le0.bind ?_ (fun _ => ?_) | with_reducible refine Le0.ite ?_ ?_ | with_reducible refine Le0.chk ?_ | with_reducible refine Le0.out ?_ | with_reducible exact Le0.refl _)

def clock_first_clock_span__clock_Wait_1_B1' (n : Nat) (p_so_c0 : Int) (s1 : Int × Int) : Option ((Int × Int) ⊕ Int) := if (decide (s1.1 < s1.2)) then chk (InI64 (s1.2 - s1.1)) (chk (InI64 (s1.1 + (quoK .i64 ((s1.2 - s1.1)) (2)))) ((clock_Wait_1' n ((s1.1 + (quoK .i64 ((s1.2 - s1.1)) (2)))) p_so_c0).bind fun x1 => if x1 then some (.inl ((s1.1, (s1.1 + (quoK .i64 ((s1.2 - s1.1)) (2)))))) else chk (InI64 ((s1.1 + (quoK .i64 ((s1.2 - s1.1)) (2))) + 1)) (some (.inl ((((s1.1 + (quoK .i64 ((s1.2 - s1.1)) (2))) + 1), s1.2)))))) else out (some s1.1)

theorem le_clock_first_clock_span__clock_Wait_1_B1 (n : Nat) (p_so_c0 : Int) (s1 : Int × Int) : Le0 (clock_first_clock_span__clock_Wait_1_B1' n p_so_c0 s1) (clock_first_clock_span__clock_Wait_1_B1 p_so_c0 s1) := by
  unfold clock_first_clock_span__clock_Wait_1_B1' clock_first_clock_span__clock_Wait_1_B1
  repeat' (first | with_reducible apply le_clock_Wait_1 | with_reducible refine Le0.bind ?_ (fun _ => ?_) | with_reducible refine Le0.ite ?_ ?_ | with_reducible refine Le0.chk ?_ | with_reducible refine Le0.out ?_ | with_reducible exact Le0.refl _)

def clock_first_clock_span__clock_Wait_1_L1' (n : Nat) (p_so_c0 : Int) (s1 : Int × Int) : Option Int := loopN (clock_first_clock_span__clock_Wait_1_B1' n p_so_c0) n s1

theorem le_clock_first_clock_span__clock_Wait_1_L1 (n : Nat) (p_so_c0 : Int) (s1 : Int × Int) : Le0 (clock_first_clock_span__clock_Wait_1_L1' n p_so_c0 s1) (clock_first_clock_span__clock_Wait_1_L1 p_so_c0 s1) := Le0.loop (fun s => le_clock_first_clock_span__clock_Wait_1_B1 n p_so_c0 s) n s1

def clock_first_clock_span__clock_Wait_1' (n : Nat) (p_from : Int) (p_to : Int) (p_so_c0 : Int) : Option Int := (clock_first_clock_span__clock_Wait_1_L1' n p_so_c0 ((p_from, p_to))).bind fun v1 => some v1

theorem le_clock_first_clock_span__clock_Wait_1 (n : Nat) (p_from : Int) (p_to : Int) (p_so_c0 : Int) : Le0 (clock_first_clock_span__clock_Wait_1' n p_from p_to p_so_c0) (clock_first_clock_span__clock_Wait_1 p_from p_to p_so_c0) := by
  unfold clock_first_clock_span__clock_Wait_1' clock_first_clock_span__clock_Wait_1
  repeat' (first | with_reducible apply le_clock_first_clock_span__clock_Wait_1_L1 | with_reducible refine Le0.bind ?_ (fun _ => ?_) | with_reducible refine Le0.ite ?_ ?_ | with_reducible refine Le0.chk ?_ | with_reducible refine Le0.out ?_ | with_reducible exact Le0.refl _)

def clock_span_most' (_n : Nat) (p_r : Int) : Option Int := chk (InI64 (p_r * 1001)) (chk (InI64 ((p_r * 1001) + 1000)) (chk (InI64 (((p_r * 1001) + 1000) - 1)) (some ((quoK .i64 ((((p_r * 1001) + 1000) - 1)) (1000))))))

theorem le_clock_span_most (n : Nat) (p_r : Int) : Le0 (clock_span_most' n p_r) (clock_span_most p_r) := by
  unfold clock_span_most' clock_span_most
  repeat' (first | with_reducible refine Le0.bind ?_ (fun _ => ?_) | with_reducible refine Le0.ite ?_ ?_ | with_reducible refine Le0.chk ?_ | with_reducible refine Le0.out ?_ | with_reducible exact Le0.refl _)

def clock_Wait' (n : Nat) (p_n : Int) : Option Int := (clock_within' n p_n (0) (1099511627776)).bind fun x1 => (clock_first_clock_span__clock_Wait_1' n (0) (2199023255552) x1).bind fun x2 => if (x2 == 0) then some (0) else chk (InI64 (x2 - 1)) ((clock_span_most' n ((x2 - 1))).bind fun x3 => chk (InI64 (x3 + 1)) (some ((x3 + 1))))

theorem le_clock_Wait (n : Nat) (p_n : Int) : Le0 (clock_Wait' n p_n) (clock_Wait p_n) := by
  unfold clock_Wait' clock_Wait
  repeat' (first | with_reducible apply le_clock_within | with_reducible apply le_clock_first_clock_span__clock_Wait_1 | with_reducible apply le_clock_span_most | with_reducible refine Le0.bind ?_ (fun _ => ?_) | with_reducible refine Le0.ite ?_ ?_ | with_reducible refine Le0.chk ?_ | with_reducible refine Le0.out ?_ | with_reducible exact Le0.refl _)

def lease_Right_1' (n : Nat) (p_y : api_Lease) (p_a1_0 : Int) (p_a1_1 : Int) (p_a1_2 : Int) (p_a1_3 : Int) (p_a1_4 : Int) (p_a1_5 : Int) (p_a1_6 : Int) : Option Bool := (lease_clash' n ((⟨p_a1_0, p_a1_1, p_a1_2, (⟨p_a1_3, p_a1_4⟩ : api_Span), p_a1_5, p_a1_6⟩ : api_Lease)) p_y).bind fun x1 => some x1

theorem le_lease_Right_1 (n : Nat) (p_y : api_Lease) (p_a1_0 : Int) (p_a1_1 : Int) (p_a1_2 : Int) (p_a1_3 : Int) (p_a1_4 : Int) (p_a1_5 : Int) (p_a1_6 : Int) : Le0 (lease_Right_1' n p_y p_a1_0 p_a1_1 p_a1_2 p_a1_3 p_a1_4 p_a1_5 p_a1_6) (lease_Right_1 p_y p_a1_0 p_a1_1 p_a1_2 p_a1_3 p_a1_4 p_a1_5 p_a1_6) := by
  unfold lease_Right_1' lease_Right_1
  repeat' (first | with_reducible apply le_lease_clash | with_reducible refine Le0.bind ?_ (fun _ => ?_) | with_reducible refine Le0.ite ?_ ?_ | with_reducible refine Le0.chk ?_ | with_reducible refine Le0.out ?_ | with_reducible exact Le0.refl _)

def slices_IndexFunc_api_Lease_api_Lease__lease_Right_1_J1' (_n : Nat) (_v1 : Unit) : Option Int := some ((-1))

theorem le_slices_IndexFunc_api_Lease_api_Lease__lease_Right_1_J1 (n : Nat) (_v1 : Unit) : Le0 (slices_IndexFunc_api_Lease_api_Lease__lease_Right_1_J1' n _v1) (slices_IndexFunc_api_Lease_api_Lease__lease_Right_1_J1 _v1) := by
  unfold slices_IndexFunc_api_Lease_api_Lease__lease_Right_1_J1' slices_IndexFunc_api_Lease_api_Lease__lease_Right_1_J1
  repeat' (first | with_reducible refine Le0.bind ?_ (fun _ => ?_) | with_reducible refine Le0.ite ?_ ?_ | with_reducible refine Le0.chk ?_ | with_reducible refine Le0.out ?_ | with_reducible exact Le0.refl _)

def slices_IndexFunc_api_Lease_api_Lease__lease_Right_1_B1' (n : Nat) (p_s : List api_Lease) (p_f_c0_0 : Int) (p_f_c0_1 : Int) (p_f_c0_2 : Int) (p_f_c0_3 : Int) (p_f_c0_4 : Int) (p_f_c0_5 : Int) (p_f_c0_6 : Int) (s1 : Int) : Option ((Int) ⊕ Int) := if (decide (s1 < (p_s.length : Int))) then (idx p_s s1).bind fun x1 => (lease_Right_1' n x1 p_f_c0_0 p_f_c0_1 p_f_c0_2 p_f_c0_3 p_f_c0_4 p_f_c0_5 p_f_c0_6).bind fun x2 => if x2 then out (some s1) else chk (InI64 (s1 + 1)) (some (.inl ((s1 + 1)))) else out (slices_IndexFunc_api_Lease_api_Lease__lease_Right_1_J1' n (()))

theorem le_slices_IndexFunc_api_Lease_api_Lease__lease_Right_1_B1 (n : Nat) (p_s : List api_Lease) (p_f_c0_0 : Int) (p_f_c0_1 : Int) (p_f_c0_2 : Int) (p_f_c0_3 : Int) (p_f_c0_4 : Int) (p_f_c0_5 : Int) (p_f_c0_6 : Int) (s1 : Int) : Le0 (slices_IndexFunc_api_Lease_api_Lease__lease_Right_1_B1' n p_s p_f_c0_0 p_f_c0_1 p_f_c0_2 p_f_c0_3 p_f_c0_4 p_f_c0_5 p_f_c0_6 s1) (slices_IndexFunc_api_Lease_api_Lease__lease_Right_1_B1 p_s p_f_c0_0 p_f_c0_1 p_f_c0_2 p_f_c0_3 p_f_c0_4 p_f_c0_5 p_f_c0_6 s1) := by
  unfold slices_IndexFunc_api_Lease_api_Lease__lease_Right_1_B1' slices_IndexFunc_api_Lease_api_Lease__lease_Right_1_B1
  repeat' (first | with_reducible apply le_lease_Right_1 | with_reducible apply le_slices_IndexFunc_api_Lease_api_Lease__lease_Right_1_J1 | with_reducible refine Le0.bind ?_ (fun _ => ?_) | with_reducible refine Le0.ite ?_ ?_ | with_reducible refine Le0.chk ?_ | with_reducible refine Le0.out ?_ | with_reducible exact Le0.refl _)

def slices_IndexFunc_api_Lease_api_Lease__lease_Right_1_L1' (n : Nat) (p_s : List api_Lease) (p_f_c0_0 : Int) (p_f_c0_1 : Int) (p_f_c0_2 : Int) (p_f_c0_3 : Int) (p_f_c0_4 : Int) (p_f_c0_5 : Int) (p_f_c0_6 : Int) (s1 : Int) : Option Int := loopN (slices_IndexFunc_api_Lease_api_Lease__lease_Right_1_B1' n p_s p_f_c0_0 p_f_c0_1 p_f_c0_2 p_f_c0_3 p_f_c0_4 p_f_c0_5 p_f_c0_6) n s1

theorem le_slices_IndexFunc_api_Lease_api_Lease__lease_Right_1_L1 (n : Nat) (p_s : List api_Lease) (p_f_c0_0 : Int) (p_f_c0_1 : Int) (p_f_c0_2 : Int) (p_f_c0_3 : Int) (p_f_c0_4 : Int) (p_f_c0_5 : Int) (p_f_c0_6 : Int) (s1 : Int) : Le0 (slices_IndexFunc_api_Lease_api_Lease__lease_Right_1_L1' n p_s p_f_c0_0 p_f_c0_1 p_f_c0_2 p_f_c0_3 p_f_c0_4 p_f_c0_5 p_f_c0_6 s1) (slices_IndexFunc_api_Lease_api_Lease__lease_Right_1_L1 p_s p_f_c0_0 p_f_c0_1 p_f_c0_2 p_f_c0_3 p_f_c0_4 p_f_c0_5 p_f_c0_6 s1) := Le0.loop (fun s => le_slices_IndexFunc_api_Lease_api_Lease__lease_Right_1_B1 n p_s p_f_c0_0 p_f_c0_1 p_f_c0_2 p_f_c0_3 p_f_c0_4 p_f_c0_5 p_f_c0_6 s) n s1

def slices_IndexFunc_api_Lease_api_Lease__lease_Right_1' (n : Nat) (p_s : List api_Lease) (p_f_c0_0 : Int) (p_f_c0_1 : Int) (p_f_c0_2 : Int) (p_f_c0_3 : Int) (p_f_c0_4 : Int) (p_f_c0_5 : Int) (p_f_c0_6 : Int) : Option Int := slices_IndexFunc_api_Lease_api_Lease__lease_Right_1_L1' n p_s p_f_c0_0 p_f_c0_1 p_f_c0_2 p_f_c0_3 p_f_c0_4 p_f_c0_5 p_f_c0_6 (0)

theorem le_slices_IndexFunc_api_Lease_api_Lease__lease_Right_1 (n : Nat) (p_s : List api_Lease) (p_f_c0_0 : Int) (p_f_c0_1 : Int) (p_f_c0_2 : Int) (p_f_c0_3 : Int) (p_f_c0_4 : Int) (p_f_c0_5 : Int) (p_f_c0_6 : Int) : Le0 (slices_IndexFunc_api_Lease_api_Lease__lease_Right_1' n p_s p_f_c0_0 p_f_c0_1 p_f_c0_2 p_f_c0_3 p_f_c0_4 p_f_c0_5 p_f_c0_6) (slices_IndexFunc_api_Lease_api_Lease__lease_Right_1 p_s p_f_c0_0 p_f_c0_1 p_f_c0_2 p_f_c0_3 p_f_c0_4 p_f_c0_5 p_f_c0_6) := by
  unfold slices_IndexFunc_api_Lease_api_Lease__lease_Right_1' slices_IndexFunc_api_Lease_api_Lease__lease_Right_1
  repeat' (first | with_reducible apply le_slices_IndexFunc_api_Lease_api_Lease__lease_Right_1_L1 | with_reducible refine Le0.bind ?_ (fun _ => ?_) | with_reducible refine Le0.ite ?_ ?_ | with_reducible refine Le0.chk ?_ | with_reducible refine Le0.out ?_ | with_reducible exact Le0.refl _)

def slices_ContainsFunc_api_Lease_api_Lease__lease_Right_1' (n : Nat) (p_s : List api_Lease) (p_f_c0 : api_Lease) : Option Bool := (slices_IndexFunc_api_Lease_api_Lease__lease_Right_1' n p_s p_f_c0.Client p_f_c0.Ino p_f_c0.Kind p_f_c0.Span.From p_f_c0.Span.To p_f_c0.Until p_f_c0.Epoch).bind fun x1 => some ((decide (x1 ≥ 0)))

theorem le_slices_ContainsFunc_api_Lease_api_Lease__lease_Right_1 (n : Nat) (p_s : List api_Lease) (p_f_c0 : api_Lease) : Le0 (slices_ContainsFunc_api_Lease_api_Lease__lease_Right_1' n p_s p_f_c0) (slices_ContainsFunc_api_Lease_api_Lease__lease_Right_1 p_s p_f_c0) := by
  unfold slices_ContainsFunc_api_Lease_api_Lease__lease_Right_1' slices_ContainsFunc_api_Lease_api_Lease__lease_Right_1
  repeat' (first | with_reducible apply le_slices_IndexFunc_api_Lease_api_Lease__lease_Right_1 | with_reducible refine Le0.bind ?_ (fun _ => ?_) | with_reducible refine Le0.ite ?_ ?_ | with_reducible refine Le0.chk ?_ | with_reducible refine Le0.out ?_ | with_reducible exact Le0.refl _)

def lease_Right_J1' (_n : Nat) (_v1 : Unit) : Option Bool := some true

theorem le_lease_Right_J1 (n : Nat) (_v1 : Unit) : Le0 (lease_Right_J1' n _v1) (lease_Right_J1 _v1) := by
  unfold lease_Right_J1' lease_Right_J1
  repeat' (first | with_reducible refine Le0.bind ?_ (fun _ => ?_) | with_reducible refine Le0.ite ?_ ?_ | with_reducible refine Le0.chk ?_ | with_reducible refine Le0.out ?_ | with_reducible exact Le0.refl _)

def lease_Right_B1' (n : Nat) (p_l : List api_Lease) (s1 : Int) : Option ((Int) ⊕ Bool) := if (decide (s1 < (p_l.length : Int))) then (idx p_l s1).bind fun x1 => ((lease_one' n x1).bind fun x2 => (if (!x2) then some true else chk ((0 : Int) ≤ s1 ∧ s1 ≤ (p_l.length : Int)) ((slices_ContainsFunc_api_Lease_api_Lease__lease_Right_1' n ((p_l.take s1.toNat)) x1).bind fun x3 => some x3)).bind fun c1 => some c1).bind fun v2 => if v2 then out (some false) else chk (InI64 (s1 + 1)) (some (.inl ((s1 + 1)))) else out (lease_Right_J1' n (()))

theorem le_lease_Right_B1 (n : Nat) (p_l : List api_Lease) (s1 : Int) : Le0 (lease_Right_B1' n p_l s1) (lease_Right_B1 p_l s1) := by
  unfold lease_Right_B1' lease_Right_B1
  repeat' (first | with_reducible apply le_lease_one | with_reducible apply le_slices_ContainsFunc_api_Lease_api_Lease__lease_Right_1 | with_reducible apply le_lease_Right_J1 | with_reducible refine Le0.bind ?_ (fun _ => ?_) | with_reducible refine Le0.ite ?_ ?_ | with_reducible refine Le0.chk ?_ | with_reducible refine Le0.out ?_ | with_reducible exact Le0.refl _)

def lease_Right_L1' (n : Nat) (p_l : List api_Lease) (s1 : Int) : Option Bool := loopN (lease_Right_B1' n p_l) n s1

theorem le_lease_Right_L1 (n : Nat) (p_l : List api_Lease) (s1 : Int) : Le0 (lease_Right_L1' n p_l s1) (lease_Right_L1 p_l s1) := Le0.loop (fun s => le_lease_Right_B1 n p_l s) n s1

def lease_Right' (n : Nat) (p_l : List api_Lease) : Option Bool := if (decide ((p_l.length : Int) > 64)) then some false else lease_Right_L1' n p_l (0)

theorem le_lease_Right (n : Nat) (p_l : List api_Lease) : Le0 (lease_Right' n p_l) (lease_Right p_l) := by
  unfold lease_Right' lease_Right
  repeat' (first | with_reducible apply le_lease_Right_L1 | with_reducible refine Le0.bind ?_ (fun _ => ?_) | with_reducible refine Le0.ite ?_ ?_ | with_reducible refine Le0.chk ?_ | with_reducible refine Le0.out ?_ | with_reducible exact Le0.refl _)

end Go.Proofs
