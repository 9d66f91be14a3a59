/- The plain programs of this seat. No condition. -/
import Derived.Test.YthhoomhekolbnaaCatP1
namespace Go.Proofs
set_option linter.all false
open Go Go.Cat

structure api_Span where
  From : Int
  To : Int


structure api_Lease where
  Client : Int
  Ino : Int
  Kind : Int
  Span : api_Span
  Until : Int
  Epoch : Int


/-- catacomblaw22.ask -/
noncomputable def law22_ask (p_client : Int) (p_kind : Int) (p_from : Int) (p_to : Int) : Option api_Lease := some ((⟨p_client, 5, p_kind, (⟨p_from, p_to⟩ : api_Span), 0, 0⟩ : api_Lease))

/-- lease.kinded -/
noncomputable def lease_kinded (p_kind : Int) : Option Bool := ((if (p_kind == 1) then some true else some ((p_kind == 2))).bind fun c1 => some c1).bind fun v1 => some v1

/-- lease.spanned -/
noncomputable def lease_spanned (p_s : api_Span) : Option Bool := ((if (decide (p_s.From ≥ 0)) then some ((decide (p_s.From < p_s.To))) else some false).bind fun c1 => (if c1 then some ((decide (p_s.To ≤ 1099511627776))) else some false).bind fun c2 => some c2).bind fun v1 => some v1

/-- lease.one -/
noncomputable def lease_one (p_x : api_Lease) : Option Bool := ((if (decide (p_x.Client ≥ 0)) then some ((decide (p_x.Client < 16))) else some false).bind fun c1 => (if c1 then some ((decide (p_x.Ino ≥ 1))) else some false).bind fun c2 => (if c2 then (lease_kinded p_x.Kind).bind fun x1 => some x1 else some false).bind fun c3 => (if c3 then (lease_spanned p_x.Span).bind fun x2 => some x2 else some false).bind fun c4 => (if c4 then some ((decide (p_x.Until ≥ 0))) else some false).bind fun c5 => (if c5 then some ((decide (p_x.Until ≤ 4398046511104))) else some false).bind fun c6 => (if c6 then some ((decide (p_x.Epoch ≥ 0))) else some false).bind fun c7 => some c7).bind fun v1 => some v1

/-- lease.Over$1 -/
noncomputable def lease_Over_1 (p_x : api_Lease) (p_a1_0 : Int) : Option Bool := some ((decide (p_x.Until > p_a1_0)))

noncomputable def lease_kept_api_Lease__lease_Over_1_B1 (p_l : List api_Lease) (p_so_c0 : Int) (s1 : Int × (List api_Lease)) : Option ((Int × (List api_Lease)) ⊕ ((List api_Lease))) := if (decide (s1.1 < (p_l.length : Int))) then ((idx p_l s1.1).bind fun x1 => (lease_Over_1 x1 p_so_c0).bind fun x2 => if x2 then chk ((s1.2.length + ([x1]).length) * 56 ≤ 140737488355328) (some ((s1.2 ++ [x1]))) else some s1.2).bind fun v2 => chk (InI64 (s1.1 + 1)) (some (.inl (((s1.1 + 1), v2)))) else out (some s1.2)

noncomputable def lease_kept_api_Lease__lease_Over_1_L1 (p_l : List api_Lease) (p_so_c0 : Int) (s1 : Int × (List api_Lease)) : Option ((List api_Lease)) := loop (lease_kept_api_Lease__lease_Over_1_B1 p_l p_so_c0) s1

/-- lease.kept[api.Lease] -/
noncomputable def lease_kept_api_Lease__lease_Over_1 (p_l : List api_Lease) (p_so_c0 : Int) : Option ((List api_Lease)) := (lease_kept_api_Lease__lease_Over_1_L1 p_l p_so_c0 ((0, []))).bind fun v1 => some v1

/-- lease.Over -/
noncomputable def lease_Over (p_l : List api_Lease) (p_now : Int) : Option ((List api_Lease)) := (lease_kept_api_Lease__lease_Over_1 p_l p_now).bind fun x1 => some x1

/-- lease.clash -/
noncomputable def lease_clash (p_a : api_Lease) (p_b : api_Lease) : Option Bool := ((if (p_a.Client != p_b.Client) then some ((p_a.Ino == p_b.Ino)) else some false).bind fun c1 => (if c1 then (if (p_a.Kind == 2) then some true else some ((p_b.Kind == 2))).bind fun c2 => some c2 else some false).bind fun c3 => (if c3 then some ((decide ((max p_a.Span.From p_b.Span.From) < (min p_a.Span.To p_b.Span.To)))) else some false).bind fun c4 => some c4).bind fun v1 => some v1

/-- lease.Ask$1 -/
noncomputable def lease_Ask_1 (p_x : api_Lease) (p_a1_0 : Int) (p_a1_1 : Int) (p_a1_2 : Int) (p_a1_3 : Int) (p_a1_4 : Int) (p_a1_5 : Int) (p_a1_6 : Int) : Option Bool := (lease_clash p_x ((⟨p_a1_0, p_a1_1, p_a1_2, (⟨p_a1_3, p_a1_4⟩ : api_Span), p_a1_5, p_a1_6⟩ : api_Lease))).bind fun x1 => some x1

noncomputable def lease_kept_api_Lease__lease_Ask_1_B1 (p_l : List api_Lease) (p_so_c0 : api_Lease) (s1 : Int × (List api_Lease)) : Option ((Int × (List api_Lease)) ⊕ ((List api_Lease))) := if (decide (s1.1 < (p_l.length : Int))) then ((idx p_l s1.1).bind fun x1 => (lease_Ask_1 x1 p_so_c0.Client p_so_c0.Ino p_so_c0.Kind p_so_c0.Span.From p_so_c0.Span.To p_so_c0.Until p_so_c0.Epoch).bind fun x2 => if x2 then chk ((s1.2.length + ([x1]).length) * 56 ≤ 140737488355328) (some ((s1.2 ++ [x1]))) else some s1.2).bind fun v2 => chk (InI64 (s1.1 + 1)) (some (.inl (((s1.1 + 1), v2)))) else out (some s1.2)

noncomputable def lease_kept_api_Lease__lease_Ask_1_L1 (p_l : List api_Lease) (p_so_c0 : api_Lease) (s1 : Int × (List api_Lease)) : Option ((List api_Lease)) := loop (lease_kept_api_Lease__lease_Ask_1_B1 p_l p_so_c0) s1

/-- lease.kept[api.Lease] -/
noncomputable def lease_kept_api_Lease__lease_Ask_1 (p_l : List api_Lease) (p_so_c0 : api_Lease) : Option ((List api_Lease)) := (lease_kept_api_Lease__lease_Ask_1_L1 p_l p_so_c0 ((0, []))).bind fun v1 => some v1

/-- slices.Values[[]int,int] -/
noncomputable def slices_Values_int_int (p_s : List Int) : Option Unit := some (())

noncomputable def slices_Compact_int_int_J1 (p_h0 : List Int) (_v1 : Unit) : Option ((List Int)) := some p_h0

noncomputable def slices_Compact_int_int_J2 (s1 : Int) (_v2 : Unit) : Option ((Int) ⊕ ((List Int))) := chk (InI64 (s1 + 1)) (some (.inl ((s1 + 1))))

noncomputable def slices_Compact_int_int_B2 (s1 : Int) (s2 : Int × Int × (List Int)) : Option ((Int × Int × (List Int)) ⊕ (Int × (List Int))) := if (decide (s2.2.1 < ((s2.2.2.drop s1.toNat).length : Int))) then ((idx (s2.2.2.drop s1.toNat) s2.2.1).bind fun x3 => chk (InI64 (s2.2.1 - 1)) ((idx (s2.2.2.drop s1.toNat) ((s2.2.1 - 1))).bind fun x4 => if (x3 != x4) then (idx (s2.2.2.drop s1.toNat) s2.2.1).bind fun x5 => (idx s2.2.2 s2.1).bind fun _ => chk (InI64 (s2.1 + 1)) (some (((s2.1 + 1), (s2.2.2.set s2.1.toNat x5)))) else some ((s2.1, s2.2.2)))).bind fun v4 => chk (InI64 (s2.2.1 + 1)) (some (.inl ((v4.1, (s2.2.1 + 1), v4.2)))) else out (some ((s2.1, s2.2.2)))

noncomputable def slices_Compact_int_int_L2 (s1 : Int) (s2 : Int × Int × (List Int)) : Option (Int × (List Int)) := loop (slices_Compact_int_int_B2 s1) s2

noncomputable def slices_Compact_int_int_B1 (p_h0 : List Int) (s1 : Int) : Option ((Int) ⊕ ((List Int))) := if (decide (s1 < (p_h0.length : Int))) then (idx p_h0 s1).bind fun x1 => chk (InI64 (s1 - 1)) ((idx p_h0 ((s1 - 1))).bind fun x2 => if (x1 == x2) then chk ((0 : Int) ≤ s1 ∧ s1 ≤ (p_h0.length : Int)) ((slices_Compact_int_int_L2 s1 ((s1, 1, p_h0))).bind fun v3 => chk ((0 : Int) ≤ v3.1 ∧ v3.1 ≤ (v3.2.length : Int)) (chk ((0 : Int) ≤ v3.1 ∧ v3.1 ≤ (((v3.2.take (v3.1.toNat) ++ List.replicate (v3.2.length - (v3.1.toNat)) (0 : Int))).length : Int)) (out (some ((((v3.2.take (v3.1.toNat) ++ List.replicate (v3.2.length - (v3.1.toNat)) (0 : Int))).take v3.1.toNat)))))) else slices_Compact_int_int_J2 s1 (())) else out (slices_Compact_int_int_J1 p_h0 (()))

noncomputable def slices_Compact_int_int_L1 (p_h0 : List Int) (s1 : Int) : Option ((List Int)) := loop (slices_Compact_int_int_B1 p_h0) s1

/-- slices.Compact[[]int,int] -/
noncomputable def slices_Compact_int_int (p_h0 : List Int) : Option ((List Int)) := if (decide ((p_h0.length : Int) < 2)) then some p_h0 else slices_Compact_int_int_L1 p_h0 (1)

/-- lease.once[int] -/
noncomputable def lease_once_int (p_l : List Int) : Option ((List Int)) := (slices_Values_int_int p_l).bind fun _ => chk (p_l.length * 8 ≤ 140737488351232) ((some (sortI p_l)).bind fun x2 => (slices_Compact_int_int x2).bind fun x3 => some x3)

/-- lease.Ask$2 -/
noncomputable def lease_Ask_2 (p_x : api_Lease) (p_a1_0 : Int) (p_a1_1 : Int) (p_a1_2 : Int) (p_a1_3 : Int) (p_a1_4 : Int) (p_a1_5 : Int) (p_a1_6 : Int) : Option Bool := ((if (p_x.Client != p_a1_0) then some true else some ((p_x.Ino != p_a1_1))).bind fun c1 => (if c1 then some true else some ((p_x.Kind != p_a1_2))).bind fun c2 => (if c2 then some true else some ((!(p_x.Span.From == p_a1_3 && (p_x.Span.To == p_a1_4 && true))))).bind fun c3 => some c3).bind fun v1 => some v1

noncomputable def lease_kept_api_Lease__lease_Ask_2_B1 (p_l : List api_Lease) (p_so_c0 : api_Lease) (s1 : Int × (List api_Lease)) : Option ((Int × (List api_Lease)) ⊕ ((List api_Lease))) := if (decide (s1.1 < (p_l.length : Int))) then ((idx p_l s1.1).bind fun x1 => (lease_Ask_2 x1 p_so_c0.Client p_so_c0.Ino p_so_c0.Kind p_so_c0.Span.From p_so_c0.Span.To p_so_c0.Until p_so_c0.Epoch).bind fun x2 => if x2 then chk ((s1.2.length + ([x1]).length) * 56 ≤ 140737488355328) (some ((s1.2 ++ [x1]))) else some s1.2).bind fun v2 => chk (InI64 (s1.1 + 1)) (some (.inl (((s1.1 + 1), v2)))) else out (some s1.2)

noncomputable def lease_kept_api_Lease__lease_Ask_2_L1 (p_l : List api_Lease) (p_so_c0 : api_Lease) (s1 : Int × (List api_Lease)) : Option ((List api_Lease)) := loop (lease_kept_api_Lease__lease_Ask_2_B1 p_l p_so_c0) s1

/-- lease.kept[api.Lease] -/
noncomputable def lease_kept_api_Lease__lease_Ask_2 (p_l : List api_Lease) (p_so_c0 : api_Lease) : Option ((List api_Lease)) := (lease_kept_api_Lease__lease_Ask_2_L1 p_l p_so_c0 ((0, []))).bind fun v1 => some v1

/-- clock.within -/
noncomputable def clock_within (p_n : Int) (p_from : Int) (p_to : Int) : Option Int := some ((min ((max p_n p_from)) p_to))

/-- (clock.span).least -/
noncomputable def clock_span_least (p_r : Int) : Option Int := chk (InI64 (p_r * 999)) (some ((quoK .i64 ((p_r * 999)) (1000))))

/-- clock.Wait$1 -/
noncomputable def clock_Wait_1 (p_r : Int) (p_a1_0 : Int) : Option Bool := (clock_span_least p_r).bind fun x1 => some ((decide (x1 ≥ p_a1_0)))

noncomputable def clock_first_clock_span__clock_Wait_1_B1 (p_so_c0 : Int) (s1 : Int × Int) : Option ((Int × Int) ⊕ Int) := if (decide (s1.1 < s1.2)) then chk (InI64 (s1.2 - s1.1)) (chk (InI64 (s1.1 + (quoK .i64 ((s1.2 - s1.1)) (2)))) ((clock_Wait_1 ((s1.1 + (quoK .i64 ((s1.2 - s1.1)) (2)))) p_so_c0).bind fun x1 => if x1 then some (.inl ((s1.1, (s1.1 + (quoK .i64 ((s1.2 - s1.1)) (2)))))) else chk (InI64 ((s1.1 + (quoK .i64 ((s1.2 - s1.1)) (2))) + 1)) (some (.inl ((((s1.1 + (quoK .i64 ((s1.2 - s1.1)) (2))) + 1), s1.2)))))) else out (some s1.1)

noncomputable def clock_first_clock_span__clock_Wait_1_L1 (p_so_c0 : Int) (s1 : Int × Int) : Option Int := loop (clock_first_clock_span__clock_Wait_1_B1 p_so_c0) s1

/-- clock.first[clock.span] -/
noncomputable def clock_first_clock_span__clock_Wait_1 (p_from : Int) (p_to : Int) (p_so_c0 : Int) : Option Int := (clock_first_clock_span__clock_Wait_1_L1 p_so_c0 ((p_from, p_to))).bind fun v1 => some v1

/-- (clock.span).most -/
noncomputable def clock_span_most (p_r : Int) : Option Int := chk (InI64 (p_r * 1001)) (chk (InI64 ((p_r * 1001) + 1000)) (chk (InI64 (((p_r * 1001) + 1000) - 1)) (some ((quoK .i64 ((((p_r * 1001) + 1000) - 1)) (1000))))))

/-- clock.Wait -/
noncomputable def clock_Wait (p_n : Int) : Option Int := (clock_within p_n (0) (1099511627776)).bind fun x1 => (clock_first_clock_span__clock_Wait_1 (0) (2199023255552) x1).bind fun x2 => if (x2 == 0) then some (0) else chk (InI64 (x2 - 1)) ((clock_span_most ((x2 - 1))).bind fun x3 => chk (InI64 (x3 + 1)) (some ((x3 + 1))))

noncomputable def lease_Ask_B1 (x3 : (List api_Lease)) (s1 : Int × (List Int)) : Option ((Int × (List Int)) ⊕ ((List Int))) := if (decide (s1.1 < (x3.length : Int))) then (idx x3 s1.1).bind fun x4 => chk ((s1.2.length + ([x4.Client]).length) * 8 ≤ 140737488355328) (chk (InI64 (s1.1 + 1)) (some (.inl (((s1.1 + 1), (s1.2 ++ [x4.Client])))))) else out (some s1.2)

noncomputable def lease_Ask_L1 (x3 : (List api_Lease)) (s1 : Int × (List Int)) : Option ((List Int)) := loop (lease_Ask_B1 x3) s1

/-- lease.Ask -/
noncomputable def lease_Ask (p_l : List api_Lease) (p_now : Int) (p_q : api_Lease) (p_many : Int) : Option ((List api_Lease) × Bool × (List Int)) := ((lease_one ((⟨p_q.Client, p_q.Ino, p_q.Kind, p_q.Span, 0, p_q.Epoch⟩ : api_Lease))).bind fun x1 => (if (!x1) then some true else some ((decide (p_many < 1)))).bind fun c1 => (if c1 then some true else some ((decide (p_many > 64)))).bind fun c2 => some c2).bind fun v1 => if v1 then some ((p_l, false, [])) else (lease_Over p_l p_now).bind fun x2 => ((lease_kept_api_Lease__lease_Ask_1 x2 ((⟨p_q.Client, p_q.Ino, p_q.Kind, p_q.Span, 0, p_q.Epoch⟩ : api_Lease))).bind fun x3 => lease_Ask_L1 x3 ((0, []))).bind fun v2 => if (decide ((v2.length : Int) > 0)) then (lease_once_int v2).bind fun x5 => some ((x2, false, x5)) else (lease_kept_api_Lease__lease_Ask_2 x2 ((⟨p_q.Client, p_q.Ino, p_q.Kind, p_q.Span, 0, p_q.Epoch⟩ : api_Lease))).bind fun x6 => if (decide ((x6.length : Int) ≥ 64)) then some ((x2, false, [])) else (clock_Wait p_many).bind fun x7 => chk (InI64 (p_now + x7)) (chk ((x6.length + ([(⟨p_q.Client, p_q.Ino, p_q.Kind, p_q.Span, (p_now + x7), p_q.Epoch⟩ : api_Lease)]).length) * 56 ≤ 140737488355328) (some (((x6 ++ [(⟨p_q.Client, p_q.Ino, p_q.Kind, p_q.Span, (p_now + x7), p_q.Epoch⟩ : api_Lease)]), true, []))))

noncomputable def ref14_Ints_J1 (_v1 : Unit) : Option Bool := some true

noncomputable def ref14_Ints_B1 (p_a : List Int) (p_b : List Int) (s1 : Int) : Option ((Int) ⊕ Bool) := if (decide (s1 < (p_a.length : Int))) then (idx p_a s1).bind fun x1 => (idx p_b s1).bind fun x2 => if (x1 != x2) then out (some false) else chk (InI64 (s1 + 1)) (some (.inl ((s1 + 1)))) else out (ref14_Ints_J1 (()))

noncomputable def ref14_Ints_L1 (p_a : List Int) (p_b : List Int) (s1 : Int) : Option Bool := loop (ref14_Ints_B1 p_a p_b) s1

/-- catacombref14.Ints -/
noncomputable def ref14_Ints (p_a : List Int) (p_b : List Int) : Option Bool := if ((p_a.length : Int) != (p_b.length : Int)) then some false else ref14_Ints_L1 p_a p_b (0)

structure span_edge where
  at_ : Int
  set_ : Int
  begins_ : Bool


noncomputable def span_edges_B1 (p_l : List api_Span) (p_set : Int) (s1 : Int × (List span_edge)) : Option ((Int × (List span_edge)) ⊕ ((List span_edge))) := if (decide (s1.1 < (p_l.length : Int))) then ((idx p_l s1.1).bind fun x1 => if (decide ((max x1.From (0)) < (min x1.To (1099511627776)))) then chk ((s1.2.length + ([(⟨(max x1.From (0)), p_set, true⟩ : span_edge), (⟨(min x1.To (1099511627776)), p_set, false⟩ : span_edge)]).length) * 24 ≤ 140737488355328) (some ((s1.2 ++ [(⟨(max x1.From (0)), p_set, true⟩ : span_edge), (⟨(min x1.To (1099511627776)), p_set, false⟩ : span_edge)]))) else some s1.2).bind fun v2 => chk (InI64 (s1.1 + 1)) (some (.inl (((s1.1 + 1), v2)))) else out (some s1.2)

noncomputable def span_edges_L1 (p_l : List api_Span) (p_set : Int) (s1 : Int × (List span_edge)) : Option ((List span_edge)) := loop (span_edges_B1 p_l p_set) s1

/-- span.edges -/
noncomputable def span_edges (p_l : List api_Span) (p_set : Int) : Option ((List span_edge)) := (span_edges_L1 p_l p_set ((0, []))).bind fun v1 => some v1

/-- cmp.isNaN[int] -/
noncomputable def cmp_isNaN_int (p_x : Int) : Option Bool := some ((p_x != p_x))

/-- cmp.Compare[int] -/
noncomputable def cmp_Compare_int (p_x : Int) (p_y : Int) : Option Int := (cmp_isNaN_int p_x).bind fun x1 => (cmp_isNaN_int p_y).bind fun x2 => if x1 then if x2 then some (0) else some ((-1)) else if x2 then some (1) else if (decide (p_x < p_y)) then some ((-1)) else if (decide (p_x > p_y)) then some (1) else some (0)

/-- (span.asked).of$1 -/
noncomputable def span_asked_of_1 (p_x : span_edge) (p_y : span_edge) : Option Int := (cmp_Compare_int p_x.at_ p_y.at_).bind fun x1 => some x1

instance : Inhabited span_edge := ⟨(⟨0, 0, false⟩ : span_edge)⟩

/-- span.Add$1 -/
noncomputable def span_Add_1 (p_x : Bool) (p_y : Bool) : Option Bool := ((if p_x then some true else some p_y).bind fun c1 => some c1).bind fun v1 => some v1

noncomputable def span_asked_of__span_Add_1_B1 (x3 : List span_edge) (s1 : Int × Int × (List api_Span) × (List Int)) : Option ((Int × Int × (List api_Span) × (List Int)) ⊕ ((List api_Span))) := if (decide (s1.2.1 < (x3.length : Int))) then ((idx x3 s1.2.1).bind fun x4 => (if (!x4.begins_) then some ((-1)) else some (1)).bind fun v3 => (idx s1.2.2.2 x4.set_).bind fun x5 => chk (x4.set_ < 2) (chk (InI64 (x5 + v3)) ((idx s1.2.2.2 x4.set_).bind fun _ => chk (x4.set_ < 2) ((chk (InI64 (s1.2.1 + 1)) ((if (decide ((s1.2.1 + 1) < (x3.length : Int))) then chk (InI64 (s1.2.1 + 1)) ((idx x3 ((s1.2.1 + 1))).bind fun x7 => some ((x7.at_ == x4.at_))) else some false).bind fun c1 => some c1)).bind fun v4 => if v4 then some ((s1.1, s1.2.2.1, (s1.2.2.2.set x4.set_.toNat ((x5 + v3))))) else (idx ((s1.2.2.2.set x4.set_.toNat ((x5 + v3)))) (0)).bind fun x8 => (idx ((s1.2.2.2.set x4.set_.toNat ((x5 + v3)))) (1)).bind fun x9 => (span_Add_1 ((decide (x8 > 0))) ((decide (x9 > 0)))).bind fun x10 => (((if x10 then some ((decide (s1.1 < 0))) else some false).bind fun c2 => some c2).bind fun v6 => if v6 then some x4.at_ else some s1.1).bind fun v5 => ((if (!x10) then some ((decide (v5 ≥ 0))) else some false).bind fun c3 => some c3).bind fun v7 => if v7 then chk ((s1.2.2.1.length + ([(⟨v5, x4.at_⟩ : api_Span)]).length) * 16 ≤ 140737488355328) (some (((-1), (s1.2.2.1 ++ [(⟨v5, x4.at_⟩ : api_Span)]), (s1.2.2.2.set x4.set_.toNat ((x5 + v3)))))) else some ((v5, s1.2.2.1, (s1.2.2.2.set x4.set_.toNat ((x5 + v3))))))))).bind fun v2 => chk (InI64 (s1.2.1 + 1)) (some (.inl ((v2.1, (s1.2.1 + 1), v2.2.1, v2.2.2)))) else out (some s1.2.2.1)

noncomputable def span_asked_of__span_Add_1_L1 (x3 : List span_edge) (s1 : Int × Int × (List api_Span) × (List Int)) : Option ((List api_Span)) := loop (span_asked_of__span_Add_1_B1 x3) s1

/-- (span.asked).of -/
noncomputable def span_asked_of__span_Add_1 (p_a : List api_Span) (p_b : List api_Span) : Option ((List api_Span)) := (span_edges p_a (0)).bind fun x1 => (span_edges p_b (1)).bind fun x2 => chk ((x1.length + x2.length) * 24 ≤ 140737488355328) ((sortF span_asked_of_1 ((x1 ++ x2))).bind fun x3 => (span_asked_of__span_Add_1_L1 x3 (((-1), 0, [], (List.replicate 2 0)))).bind fun v1 => some v1)

/-- span.Add -/
noncomputable def span_Add (p_a : List api_Span) (p_b : List api_Span) : Option ((List api_Span)) := (span_asked_of__span_Add_1 p_a p_b).bind fun x1 => some x1

/-- span.Norm -/
noncomputable def span_Norm (p_l : List api_Span) : Option ((List api_Span)) := (span_Add p_l ([])).bind fun x1 => some x1

/-- span.Cut$1 -/
noncomputable def span_Cut_1 (p_x : Bool) (p_y : Bool) : Option Bool := ((if p_x then some ((!p_y)) else some false).bind fun c1 => some c1).bind fun v1 => some v1

noncomputable def span_asked_of__span_Cut_1_B1 (x3 : List span_edge) (s1 : Int × Int × (List api_Span) × (List Int)) : Option ((Int × Int × (List api_Span) × (List Int)) ⊕ ((List api_Span))) := if (decide (s1.2.1 < (x3.length : Int))) then ((idx x3 s1.2.1).bind fun x4 => (if (!x4.begins_) then some ((-1)) else some (1)).bind fun v3 => (idx s1.2.2.2 x4.set_).bind fun x5 => chk (x4.set_ < 2) (chk (InI64 (x5 + v3)) ((idx s1.2.2.2 x4.set_).bind fun _ => chk (x4.set_ < 2) ((chk (InI64 (s1.2.1 + 1)) ((if (decide ((s1.2.1 + 1) < (x3.length : Int))) then chk (InI64 (s1.2.1 + 1)) ((idx x3 ((s1.2.1 + 1))).bind fun x7 => some ((x7.at_ == x4.at_))) else some false).bind fun c1 => some c1)).bind fun v4 => if v4 then some ((s1.1, s1.2.2.1, (s1.2.2.2.set x4.set_.toNat ((x5 + v3))))) else (idx ((s1.2.2.2.set x4.set_.toNat ((x5 + v3)))) (0)).bind fun x8 => (idx ((s1.2.2.2.set x4.set_.toNat ((x5 + v3)))) (1)).bind fun x9 => (span_Cut_1 ((decide (x8 > 0))) ((decide (x9 > 0)))).bind fun x10 => (((if x10 then some ((decide (s1.1 < 0))) else some false).bind fun c2 => some c2).bind fun v6 => if v6 then some x4.at_ else some s1.1).bind fun v5 => ((if (!x10) then some ((decide (v5 ≥ 0))) else some false).bind fun c3 => some c3).bind fun v7 => if v7 then chk ((s1.2.2.1.length + ([(⟨v5, x4.at_⟩ : api_Span)]).length) * 16 ≤ 140737488355328) (some (((-1), (s1.2.2.1 ++ [(⟨v5, x4.at_⟩ : api_Span)]), (s1.2.2.2.set x4.set_.toNat ((x5 + v3)))))) else some ((v5, s1.2.2.1, (s1.2.2.2.set x4.set_.toNat ((x5 + v3))))))))).bind fun v2 => chk (InI64 (s1.2.1 + 1)) (some (.inl ((v2.1, (s1.2.1 + 1), v2.2.1, v2.2.2)))) else out (some s1.2.2.1)

noncomputable def span_asked_of__span_Cut_1_L1 (x3 : List span_edge) (s1 : Int × Int × (List api_Span) × (List Int)) : Option ((List api_Span)) := loop (span_asked_of__span_Cut_1_B1 x3) s1

/-- (span.asked).of -/
noncomputable def span_asked_of__span_Cut_1 (p_a : List api_Span) (p_b : List api_Span) : Option ((List api_Span)) := (span_edges p_a (0)).bind fun x1 => (span_edges p_b (1)).bind fun x2 => chk ((x1.length + x2.length) * 24 ≤ 140737488355328) ((sortF span_asked_of_1 ((x1 ++ x2))).bind fun x3 => (span_asked_of__span_Cut_1_L1 x3 (((-1), 0, [], (List.replicate 2 0)))).bind fun v1 => some v1)

/-- span.Cut -/
noncomputable def span_Cut (p_a : List api_Span) (p_b : List api_Span) : Option ((List api_Span)) := (span_asked_of__span_Cut_1 p_a p_b).bind fun x1 => some x1

noncomputable def lease_Has_B1 (p_l : List api_Lease) (p_client : Int) (p_ino : Int) (p_kind : Int) (s1 : Int × (List api_Span)) : Option ((Int × (List api_Span)) ⊕ ((List api_Span))) := if (decide (s1.1 < (p_l.length : Int))) then ((idx p_l s1.1).bind fun x3 => ((if (x3.Client == p_client) then some ((x3.Ino == p_ino)) else some false).bind fun c2 => (if c2 then (if (x3.Kind == p_kind) then some true else some ((x3.Kind == 2))).bind fun c3 => some c3 else some false).bind fun c4 => some c4).bind fun v4 => if v4 then chk ((s1.2.length + ([x3.Span]).length) * 16 ≤ 140737488355328) (some ((s1.2 ++ [x3.Span]))) else some s1.2).bind fun v3 => chk (InI64 (s1.1 + 1)) (some (.inl (((s1.1 + 1), v3)))) else out (some s1.2)

noncomputable def lease_Has_L1 (p_l : List api_Lease) (p_client : Int) (p_ino : Int) (p_kind : Int) (s1 : Int × (List api_Span)) : Option ((List api_Span)) := loop (lease_Has_B1 p_l p_client p_ino p_kind) s1

/-- lease.Has -/
noncomputable def lease_Has (p_l : List api_Lease) (p_client : Int) (p_ino : Int) (p_kind : Int) (p_s : api_Span) : Option Bool := ((lease_spanned p_s).bind fun x1 => (if (!x1) then some true else (lease_kinded p_kind).bind fun x2 => some ((!x2))).bind fun c1 => some c1).bind fun v1 => if v1 then some false else (lease_Has_L1 p_l p_client p_ino p_kind ((0, []))).bind fun v2 => (span_Norm v2).bind fun x4 => (span_Cut ([p_s]) x4).bind fun x5 => some (((x5.length : Int) == 0))

/-- lease.Back$1 -/
noncomputable def lease_Back_1 (p_x : api_Lease) (p_a1_0 : Int) (p_a2_0 : Int) : Option Bool := ((if (p_x.Client != p_a1_0) then some true else some ((p_x.Ino != p_a2_0))).bind fun c1 => some c1).bind fun v1 => some v1

noncomputable def lease_kept_api_Lease__lease_Back_1_B1 (p_l : List api_Lease) (p_so_c0 : Int) (p_so_c1 : Int) (s1 : Int × (List api_Lease)) : Option ((Int × (List api_Lease)) ⊕ ((List api_Lease))) := if (decide (s1.1 < (p_l.length : Int))) then ((idx p_l s1.1).bind fun x1 => (lease_Back_1 x1 p_so_c0 p_so_c1).bind fun x2 => if x2 then chk ((s1.2.length + ([x1]).length) * 56 ≤ 140737488355328) (some ((s1.2 ++ [x1]))) else some s1.2).bind fun v2 => chk (InI64 (s1.1 + 1)) (some (.inl (((s1.1 + 1), v2)))) else out (some s1.2)

noncomputable def lease_kept_api_Lease__lease_Back_1_L1 (p_l : List api_Lease) (p_so_c0 : Int) (p_so_c1 : Int) (s1 : Int × (List api_Lease)) : Option ((List api_Lease)) := loop (lease_kept_api_Lease__lease_Back_1_B1 p_l p_so_c0 p_so_c1) s1

/-- lease.kept[api.Lease] -/
noncomputable def lease_kept_api_Lease__lease_Back_1 (p_l : List api_Lease) (p_so_c0 : Int) (p_so_c1 : Int) : Option ((List api_Lease)) := (lease_kept_api_Lease__lease_Back_1_L1 p_l p_so_c0 p_so_c1 ((0, []))).bind fun v1 => some v1

/-- lease.Back -/
noncomputable def lease_Back (p_l : List api_Lease) (p_client : Int) (p_ino : Int) : Option ((List api_Lease)) := (lease_kept_api_Lease__lease_Back_1 p_l p_client p_ino).bind fun x1 => some x1

/-- lease.Right$1 -/
noncomputable def lease_Right_1 (p_y : api_Lease) (p_a1_0 : Int) (p_a1_1 : Int) (p_a1_2 : Int) (p_a1_3 : Int) (p_a1_4 : Int) (p_a1_5 : Int) (p_a1_6 : Int) : Option Bool := (lease_clash ((⟨p_a1_0, p_a1_1, p_a1_2, (⟨p_a1_3, p_a1_4⟩ : api_Span), p_a1_5, p_a1_6⟩ : api_Lease)) p_y).bind fun x1 => some x1

noncomputable def slices_IndexFunc_api_Lease_api_Lease__lease_Right_1_J1 (_v1 : Unit) : Option Int := some ((-1))

noncomputable def slices_IndexFunc_api_Lease_api_Lease__lease_Right_1_B1 (p_s : List api_Lease) (p_f_c0_0 : Int) (p_f_c0_1 : Int) (p_f_c0_2 : Int) (p_f_c0_3 : Int) (p_f_c0_4 : Int) (p_f_c0_5 : Int) (p_f_c0_6 : Int) (s1 : Int) : Option ((Int) ⊕ Int) := if (decide (s1 < (p_s.length : Int))) then (idx p_s s1).bind fun x1 => (lease_Right_1 x1 p_f_c0_0 p_f_c0_1 p_f_c0_2 p_f_c0_3 p_f_c0_4 p_f_c0_5 p_f_c0_6).bind fun x2 => if x2 then out (some s1) else chk (InI64 (s1 + 1)) (some (.inl ((s1 + 1)))) else out (slices_IndexFunc_api_Lease_api_Lease__lease_Right_1_J1 (()))

noncomputable def slices_IndexFunc_api_Lease_api_Lease__lease_Right_1_L1 (p_s : List api_Lease) (p_f_c0_0 : Int) (p_f_c0_1 : Int) (p_f_c0_2 : Int) (p_f_c0_3 : Int) (p_f_c0_4 : Int) (p_f_c0_5 : Int) (p_f_c0_6 : Int) (s1 : Int) : Option Int := loop (slices_IndexFunc_api_Lease_api_Lease__lease_Right_1_B1 p_s p_f_c0_0 p_f_c0_1 p_f_c0_2 p_f_c0_3 p_f_c0_4 p_f_c0_5 p_f_c0_6) s1

/-- slices.IndexFunc[[]api.Lease,api.Lease] -/
noncomputable def slices_IndexFunc_api_Lease_api_Lease__lease_Right_1 (p_s : List api_Lease) (p_f_c0_0 : Int) (p_f_c0_1 : Int) (p_f_c0_2 : Int) (p_f_c0_3 : Int) (p_f_c0_4 : Int) (p_f_c0_5 : Int) (p_f_c0_6 : Int) : Option Int := slices_IndexFunc_api_Lease_api_Lease__lease_Right_1_L1 p_s p_f_c0_0 p_f_c0_1 p_f_c0_2 p_f_c0_3 p_f_c0_4 p_f_c0_5 p_f_c0_6 (0)

/-- slices.ContainsFunc[[]api.Lease,api.Lease] -/
noncomputable def slices_ContainsFunc_api_Lease_api_Lease__lease_Right_1 (p_s : List api_Lease) (p_f_c0 : api_Lease) : Option Bool := (slices_IndexFunc_api_Lease_api_Lease__lease_Right_1 p_s p_f_c0.Client p_f_c0.Ino p_f_c0.Kind p_f_c0.Span.From p_f_c0.Span.To p_f_c0.Until p_f_c0.Epoch).bind fun x1 => some ((decide (x1 ≥ 0)))

noncomputable def lease_Right_J1 (_v1 : Unit) : Option Bool := some true

noncomputable def lease_Right_B1 (p_l : List api_Lease) (s1 : Int) : Option ((Int) ⊕ Bool) := if (decide (s1 < (p_l.length : Int))) then (idx p_l s1).bind fun x1 => ((lease_one x1).bind fun x2 => (if (!x2) then some true else chk ((0 : Int) ≤ s1 ∧ s1 ≤ (p_l.length : Int)) ((slices_ContainsFunc_api_Lease_api_Lease__lease_Right_1 ((p_l.take s1.toNat)) x1).bind fun x3 => some x3)).bind fun c1 => some c1).bind fun v2 => if v2 then out (some false) else chk (InI64 (s1 + 1)) (some (.inl ((s1 + 1)))) else out (lease_Right_J1 (()))

noncomputable def lease_Right_L1 (p_l : List api_Lease) (s1 : Int) : Option Bool := loop (lease_Right_B1 p_l) s1

/-- lease.Right -/
noncomputable def lease_Right (p_l : List api_Lease) : Option Bool := if (decide ((p_l.length : Int) > 64)) then some false else lease_Right_L1 p_l (0)

/-- catacomblaw22.head -/
noncomputable def law22_head : Option Bool := (law22_ask (1) (2) (0) (8)).bind fun x1 => (lease_Ask ([]) (10) x1 (1)).bind fun x2 => (law22_ask (2) (1) (4) (12)).bind fun x3 => (lease_Ask x2.1 (10) x3 (1)).bind fun x4 => (law22_ask (2) (1) (8) (12)).bind fun x5 => (lease_Ask x2.1 (10) x5 (1)).bind fun x6 => (law22_ask (2) (2) (0) (8)).bind fun x7 => (lease_Ask x2.1 (13) x7 (1)).bind fun x8 => (law22_ask (1) (2) (0) (8)).bind fun x9 => (lease_Ask x2.1 (12) x9 (2)).bind fun x10 => ((if ((x2.1.length : Int) != 1) then some true else some (((x6.1.length : Int) != 2))).bind fun c1 => (if c1 then some true else some (((x8.1.length : Int) != 1))).bind fun c2 => (if c2 then some true else some (((x10.1.length : Int) != 1))).bind fun c3 => some c3).bind fun v1 => if v1 then some false else ((if x2.2.1 then (idx x2.1 (0)).bind fun x11 => some ((x11.Until == 13)) else some false).bind fun c4 => (if c4 then some ((!x4.2.1)) else some false).bind fun c5 => (if c5 then (ref14_Ints x4.2.2 ([1])).bind fun x12 => some x12 else some false).bind fun c6 => (if c6 then some x6.2.1 else some false).bind fun c7 => (if c7 then some x8.2.1 else some false).bind fun c8 => (if c8 then (idx x8.1 (0)).bind fun x13 => some ((x13.Client == 2)) else some false).bind fun c9 => (if c9 then (idx x8.1 (0)).bind fun x14 => some ((x14.Until == 16)) else some false).bind fun c10 => (if c10 then some x10.2.1 else some false).bind fun c11 => (if c11 then (idx x10.1 (0)).bind fun x15 => some ((x15.Until == 16)) else some false).bind fun c12 => (if c12 then (lease_Has x6.1 (1) (5) (1) ((⟨2, 8⟩ : api_Span))).bind fun x16 => some x16 else some false).bind fun c13 => (if c13 then (lease_Has x6.1 (2) (5) (2) ((⟨8, 9⟩ : api_Span))).bind fun x17 => some ((!x17)) else some false).bind fun c14 => (if c14 then (lease_Has x6.1 (1) (5) (2) ((⟨2, 9⟩ : api_Span))).bind fun x18 => some ((!x18)) else some false).bind fun c15 => (if c15 then (lease_Back x6.1 (1) (5)).bind fun x19 => some (((x19.length : Int) == 1)) else some false).bind fun c16 => (if c16 then (lease_Over x6.1 (13)).bind fun x20 => some (((x20.length : Int) == 0)) else some false).bind fun c17 => (if c17 then (lease_Right x6.1).bind fun x21 => some x21 else some false).bind fun c18 => (if c18 then chk (((([] : List api_Lease)).length + x6.1.length) * 56 ≤ 140737488355328) ((law22_ask (3) (2) (0) (99)).bind fun x22 => chk ((((([] : List api_Lease) ++ x6.1)).length + ([x22]).length) * 56 ≤ 140737488355328) ((lease_Right (((([] : List api_Lease) ++ x6.1) ++ [x22]))).bind fun x23 => some ((!x23)))) else some false).bind fun c19 => some c19).bind fun v2 => some v2

/-- catacombref22.Spanned -/
noncomputable def ref22_Spanned (p_s : api_Span) : Option Bool := ((if (decide (p_s.From ≥ 0)) then some ((decide (p_s.From < p_s.To))) else some false).bind fun c1 => (if c1 then some ((decide (p_s.To ≤ 1099511627776))) else some false).bind fun c2 => some c2).bind fun v1 => some v1

/-- catacombref22.One -/
noncomputable def ref22_One (p_x : api_Lease) : Option Bool := ((if (decide (p_x.Client ≥ 0)) then some ((decide (p_x.Client < 16))) else some false).bind fun c1 => (if c1 then some ((decide (p_x.Ino ≥ 1))) else some false).bind fun c2 => (if c2 then (if (p_x.Kind == 1) then some true else some ((p_x.Kind == 2))).bind fun c3 => some c3 else some false).bind fun c4 => (if c4 then (ref22_Spanned p_x.Span).bind fun x1 => some x1 else some false).bind fun c5 => (if c5 then some ((decide (p_x.Until ≥ 0))) else some false).bind fun c6 => (if c6 then some ((decide (p_x.Until ≤ 4398046511104))) else some false).bind fun c7 => (if c7 then some ((decide (p_x.Epoch ≥ 0))) else some false).bind fun c8 => some c8).bind fun v1 => some v1

/-- catacombref22.Meet -/
noncomputable def ref22_Meet (p_a : api_Span) (p_b : api_Span) : Option Bool := ((if (decide (p_a.From < p_b.To)) then some ((decide (p_b.From < p_a.To))) else some false).bind fun c1 => (if c1 then some ((decide (p_a.From < p_a.To))) else some false).bind fun c2 => (if c2 then some ((decide (p_b.From < p_b.To))) else some false).bind fun c3 => some c3).bind fun v1 => some v1

/-- catacombref22.Clash -/
noncomputable def ref22_Clash (p_a : api_Lease) (p_b : api_Lease) : Option Bool := ((if (p_a.Client != p_b.Client) then some ((p_a.Ino == p_b.Ino)) else some false).bind fun c1 => (if c1 then (ref22_Meet p_a.Span p_b.Span).bind fun x1 => some x1 else some false).bind fun c2 => (if c2 then (if (p_a.Kind == 2) then some true else some ((p_b.Kind == 2))).bind fun c3 => some c3 else some false).bind fun c4 => some c4).bind fun v1 => some v1

noncomputable def ref22_Right_J1 (p_l : List api_Lease) (_v1 : Unit) : Option Bool := some ((decide ((p_l.length : Int) ≤ 64)))

noncomputable def ref22_Right_J2 (s1 : Int) (_v2 : Unit) : Option ((Int) ⊕ Bool) := chk (InI64 (s1 + 1)) (some (.inl ((s1 + 1))))

noncomputable def ref22_Right_B2 (s1 : Int) (p_l : List api_Lease) (s2 : Int) : Option ((Int) ⊕ ((Int) ⊕ Bool)) := if (decide (s2 < s1)) then (idx p_l s1).bind fun x3 => (idx p_l s2).bind fun x4 => (ref22_Clash x3 x4).bind fun x5 => if x5 then out (out (some false)) else chk (InI64 (s2 + 1)) (some (.inl ((s2 + 1)))) else out (ref22_Right_J2 s1 (()))

noncomputable def ref22_Right_L2 (s1 : Int) (p_l : List api_Lease) (s2 : Int) : Option ((Int) ⊕ Bool) := loop (ref22_Right_B2 s1 p_l) s2

noncomputable def ref22_Right_B1 (p_l : List api_Lease) (s1 : Int) : Option ((Int) ⊕ Bool) := if (decide (s1 < (p_l.length : Int))) then (idx p_l s1).bind fun x1 => (ref22_One x1).bind fun x2 => if (!x2) then out (some false) else ref22_Right_L2 s1 p_l (0) else out (ref22_Right_J1 p_l (()))

noncomputable def ref22_Right_L1 (p_l : List api_Lease) (s1 : Int) : Option Bool := loop (ref22_Right_B1 p_l) s1

/-- catacombref22.Right -/
noncomputable def ref22_Right (p_l : List api_Lease) : Option Bool := ref22_Right_L1 p_l (0)

/-- catacomblaw22.time -/
noncomputable def law22_time (p_n : Int) : Option Int := ((if (decide (p_n < 0)) then some true else some ((decide (p_n > 1099511627776)))).bind fun c1 => some c1).bind fun v1 => if v1 then some (0) else some p_n

noncomputable def ref22_Over_B1 (p_l : List api_Lease) (p_now : Int) (s1 : Int × (List api_Lease)) : Option ((Int × (List api_Lease)) ⊕ ((List api_Lease))) := if (decide (s1.1 < (p_l.length : Int))) then ((idx p_l s1.1).bind fun x1 => if (decide (x1.Until > p_now)) then (idx p_l s1.1).bind fun x2 => chk ((s1.2.length + ([x2]).length) * 56 ≤ 140737488355328) (some ((s1.2 ++ [x2]))) else some s1.2).bind fun v2 => chk (InI64 (s1.1 + 1)) (some (.inl (((s1.1 + 1), v2)))) else out (some s1.2)

noncomputable def ref22_Over_L1 (p_l : List api_Lease) (p_now : Int) (s1 : Int × (List api_Lease)) : Option ((List api_Lease)) := loop (ref22_Over_B1 p_l p_now) s1

/-- catacombref22.Over -/
noncomputable def ref22_Over (p_l : List api_Lease) (p_now : Int) : Option ((List api_Lease)) := (ref22_Over_L1 p_l p_now ((0, ([] : List api_Lease)))).bind fun v1 => some v1

noncomputable def ref22_Whose_B2 (p_l : List api_Lease) (s1 : Int × (List Int)) (p_q : api_Lease) (s2 : Bool × Int) : Option ((Bool × Int) ⊕ Bool) := if (decide (s2.2 < (p_l.length : Int))) then ((if s2.1 then some true else (idx p_l s2.2).bind fun x1 => (if (x1.Client == s1.1) then (idx p_l s2.2).bind fun x2 => (ref22_Clash x2 p_q).bind fun x3 => some x3 else some false).bind fun c1 => some c1).bind fun c2 => some c2).bind fun v4 => chk (InI64 (s2.2 + 1)) (some (.inl ((v4, (s2.2 + 1))))) else out (some s2.1)

noncomputable def ref22_Whose_L2 (p_l : List api_Lease) (s1 : Int × (List Int)) (p_q : api_Lease) (s2 : Bool × Int) : Option Bool := loop (ref22_Whose_B2 p_l s1 p_q) s2

noncomputable def ref22_Whose_B1 (p_l : List api_Lease) (p_q : api_Lease) (s1 : Int × (List Int)) : Option ((Int × (List Int)) ⊕ ((List Int))) := if (decide (s1.1 < 16)) then ((ref22_Whose_L2 p_l s1 p_q ((false, 0))).bind fun v3 => if v3 then chk ((s1.2.length + ([s1.1]).length) * 8 ≤ 140737488355328) (some ((s1.2 ++ [s1.1]))) else some s1.2).bind fun v2 => chk (InI64 (s1.1 + 1)) (some (.inl (((s1.1 + 1), v2)))) else out (some s1.2)

noncomputable def ref22_Whose_L1 (p_l : List api_Lease) (p_q : api_Lease) (s1 : Int × (List Int)) : Option ((List Int)) := loop (ref22_Whose_B1 p_l p_q) s1

/-- catacombref22.Whose -/
noncomputable def ref22_Whose (p_l : List api_Lease) (p_q : api_Lease) : Option ((List Int)) := (ref22_Whose_L1 p_l p_q ((0, ([] : List Int)))).bind fun v1 => some v1

/-- catacombref03.within -/
noncomputable def ref03_within (p_n : Int) (p_to : Int) : Option Int := if (decide (p_n < 0)) then some (0) else if (decide (p_n > p_to)) then some p_to else some p_n

/-- catacombref03.Most -/
noncomputable def ref03_Most (p_real : Int) : Option Int := (ref03_within p_real (2199023255552)).bind fun x1 => chk (InI64 (x1 * 1001)) (if (decide ((Int.tmod ((x1 * 1001)) (1000)) > 0)) then chk (InI64 ((quoK .i64 ((x1 * 1001)) (1000)) + 1)) (some (((quoK .i64 ((x1 * 1001)) (1000)) + 1))) else some ((quoK .i64 ((x1 * 1001)) (1000))))

noncomputable def ref03_soonest_B1 (p_w : Int) (s1 : Int × Int) : Option ((Int × Int) ⊕ Int) := if (decide (s1.1 < s1.2)) then chk (InI64 (s1.1 + s1.2)) ((ref03_Most ((quoK .i64 ((s1.1 + s1.2)) (2)))).bind fun x1 => if (decide (x1 ≥ p_w)) then some (.inl ((s1.1, (quoK .i64 ((s1.1 + s1.2)) (2))))) else chk (InI64 ((quoK .i64 ((s1.1 + s1.2)) (2)) + 1)) (some (.inl ((((quoK .i64 ((s1.1 + s1.2)) (2)) + 1), s1.2))))) else out (some s1.1)

noncomputable def ref03_soonest_L1 (p_w : Int) (s1 : Int × Int) : Option Int := loop (ref03_soonest_B1 p_w) s1

/-- catacombref03.soonest -/
noncomputable def ref03_soonest (p_w : Int) : Option Int := (ref03_soonest_L1 p_w ((0, 2199023255552))).bind fun v1 => some v1

/-- catacombref03.Least -/
noncomputable def ref03_Least (p_real : Int) : Option Int := (ref03_within p_real (2199023255552)).bind fun x1 => chk (InI64 (x1 * 999)) (some ((quoK .i64 ((x1 * 999)) (1000))))

noncomputable def ref03_Wait_B1 (x1 : Int) (s1 : Int × Int) : Option ((Int × Int) ⊕ Int) := if (decide (s1.1 < s1.2)) then chk (InI64 (s1.1 + s1.2)) ((ref03_soonest ((quoK .i64 ((s1.1 + s1.2)) (2)))).bind fun x2 => (ref03_Least x2).bind fun x3 => if (decide (x3 ≥ x1)) then some (.inl ((s1.1, (quoK .i64 ((s1.1 + s1.2)) (2))))) else chk (InI64 ((quoK .i64 ((s1.1 + s1.2)) (2)) + 1)) (some (.inl ((((quoK .i64 ((s1.1 + s1.2)) (2)) + 1), s1.2))))) else out (some s1.1)

noncomputable def ref03_Wait_L1 (x1 : Int) (s1 : Int × Int) : Option Int := loop (ref03_Wait_B1 x1) s1

/-- catacombref03.Wait -/
noncomputable def ref03_Wait (p_n : Int) : Option Int := (ref03_within p_n (1099511627776)).bind fun x1 => (ref03_Wait_L1 x1 ((0, 2199023255552))).bind fun v1 => some v1

noncomputable def ref22_Ask_B1 (x2 : (List api_Lease)) (p_q : api_Lease) (s1 : Int × (List api_Lease)) : Option ((Int × (List api_Lease)) ⊕ ((List api_Lease))) := if (decide (s1.1 < (x2.length : Int))) then ((idx x2 s1.1).bind fun x4 => ((if (x4.Client != p_q.Client) then some true else some ((x4.Ino != p_q.Ino))).bind fun c3 => (if c3 then some true else some ((x4.Kind != p_q.Kind))).bind fun c4 => (if c4 then some true else some ((!(x4.Span.From == p_q.Span.From && (x4.Span.To == p_q.Span.To && true))))).bind fun c5 => some c5).bind fun v4 => if v4 then chk ((s1.2.length + ([x4]).length) * 56 ≤ 140737488355328) (some ((s1.2 ++ [x4]))) else some s1.2).bind fun v3 => chk (InI64 (s1.1 + 1)) (some (.inl (((s1.1 + 1), v3)))) else out (some s1.2)

noncomputable def ref22_Ask_L1 (x2 : (List api_Lease)) (p_q : api_Lease) (s1 : Int × (List api_Lease)) : Option ((List api_Lease)) := loop (ref22_Ask_B1 x2 p_q) s1

/-- catacombref22.Ask -/
noncomputable def ref22_Ask (p_l : List api_Lease) (p_now : Int) (p_q : api_Lease) (p_many : Int) : Option ((List api_Lease) × Bool × (List Int)) := ((ref22_One ((⟨p_q.Client, p_q.Ino, p_q.Kind, p_q.Span, 0, p_q.Epoch⟩ : api_Lease))).bind fun x1 => (if (!x1) then some true else some ((decide (p_many < 1)))).bind fun c1 => (if c1 then some true else some ((decide (p_many > 64)))).bind fun c2 => some c2).bind fun v1 => if v1 then some ((p_l, false, [])) else (ref22_Over p_l p_now).bind fun x2 => (ref22_Whose x2 ((⟨p_q.Client, p_q.Ino, p_q.Kind, p_q.Span, 0, p_q.Epoch⟩ : api_Lease))).bind fun x3 => if (decide ((x3.length : Int) > 0)) then some ((x2, false, x3)) else (ref22_Ask_L1 x2 p_q ((0, ([] : List api_Lease)))).bind fun v2 => if (decide ((v2.length : Int) ≥ 64)) then some ((x2, false, [])) else (ref03_Wait p_many).bind fun x5 => chk (InI64 (p_now + x5)) (chk ((v2.length + ([(⟨p_q.Client, p_q.Ino, p_q.Kind, p_q.Span, (p_now + x5), p_q.Epoch⟩ : api_Lease)]).length) * 56 ≤ 140737488355328) (some (((v2 ++ [(⟨p_q.Client, p_q.Ino, p_q.Kind, p_q.Span, (p_now + x5), p_q.Epoch⟩ : api_Lease)]), true, []))))

noncomputable def ref22_Same_J1 (_v1 : Unit) : Option Bool := some true

noncomputable def ref22_Same_B1 (p_a : List api_Lease) (p_b : List api_Lease) (s1 : Int) : Option ((Int) ⊕ Bool) := if (decide (s1 < (p_a.length : Int))) then (idx p_a s1).bind fun x1 => (idx p_b s1).bind fun x2 => if (!(x1.Client == x2.Client && (x1.Ino == x2.Ino && (x1.Kind == x2.Kind && (x1.Span.From == x2.Span.From && (x1.Span.To == x2.Span.To && (x1.Until == x2.Until && (x1.Epoch == x2.Epoch && true)))))))) then out (some false) else chk (InI64 (s1 + 1)) (some (.inl ((s1 + 1)))) else out (ref22_Same_J1 (()))

noncomputable def ref22_Same_L1 (p_a : List api_Lease) (p_b : List api_Lease) (s1 : Int) : Option Bool := loop (ref22_Same_B1 p_a p_b) s1

/-- catacombref22.Same -/
noncomputable def ref22_Same (p_a : List api_Lease) (p_b : List api_Lease) : Option Bool := if ((p_a.length : Int) != (p_b.length : Int)) then some false else ref22_Same_L1 p_a p_b (0)

noncomputable def ref22_Back_B1 (p_l : List api_Lease) (p_client : Int) (p_ino : Int) (s1 : Int × (List api_Lease)) : Option ((Int × (List api_Lease)) ⊕ ((List api_Lease))) := if (decide (s1.1 < (p_l.length : Int))) then (((idx p_l s1.1).bind fun x1 => (if (x1.Client != p_client) then some true else (idx p_l s1.1).bind fun x2 => some ((x2.Ino != p_ino))).bind fun c1 => some c1).bind fun v3 => if v3 then (idx p_l s1.1).bind fun x3 => chk ((s1.2.length + ([x3]).length) * 56 ≤ 140737488355328) (some ((s1.2 ++ [x3]))) else some s1.2).bind fun v2 => chk (InI64 (s1.1 + 1)) (some (.inl (((s1.1 + 1), v2)))) else out (some s1.2)

noncomputable def ref22_Back_L1 (p_l : List api_Lease) (p_client : Int) (p_ino : Int) (s1 : Int × (List api_Lease)) : Option ((List api_Lease)) := loop (ref22_Back_B1 p_l p_client p_ino) s1

/-- catacombref22.Back -/
noncomputable def ref22_Back (p_l : List api_Lease) (p_client : Int) (p_ino : Int) : Option ((List api_Lease)) := (ref22_Back_L1 p_l p_client p_ino ((0, ([] : List api_Lease)))).bind fun v1 => some v1

noncomputable def ref22_Has_B1 (p_l : List api_Lease) (p_client : Int) (p_ino : Int) (p_kind : Int) (s1 : Int × Int) : Option ((Int × Int) ⊕ Int) := if (decide (s1.2 < (p_l.length : Int))) then ((idx p_l s1.2).bind fun x2 => ((if (x2.Client == p_client) then some ((x2.Ino == p_ino)) else some false).bind fun c3 => (if c3 then (if (x2.Kind == p_kind) then some true else some ((x2.Kind == 2))).bind fun c4 => some c4 else some false).bind fun c5 => (if c5 then some ((decide (x2.Span.From ≤ s1.1))) else some false).bind fun c6 => (if c6 then some ((decide (x2.Span.To > s1.1))) else some false).bind fun c7 => some c7).bind fun v4 => if v4 then some ((x2.Span.To, (-1))) else some ((s1.1, s1.2))).bind fun v3 => chk (InI64 (v3.2 + 1)) (some (.inl ((v3.1, (v3.2 + 1))))) else out (some s1.1)

noncomputable def ref22_Has_L1 (p_l : List api_Lease) (p_client : Int) (p_ino : Int) (p_kind : Int) (s1 : Int × Int) : Option Int := loop (ref22_Has_B1 p_l p_client p_ino p_kind) s1

/-- catacombref22.Has -/
noncomputable def ref22_Has (p_l : List api_Lease) (p_client : Int) (p_ino : Int) (p_kind : Int) (p_s : api_Span) : Option Bool := ((ref22_Spanned p_s).bind fun x1 => (if (!x1) then some true else (if (p_kind != 1) then some ((p_kind != 2)) else some false).bind fun c1 => some c1).bind fun c2 => some c2).bind fun v1 => if v1 then some false else (ref22_Has_L1 p_l p_client p_ino p_kind ((p_s.From, 0))).bind fun v2 => some ((decide (v2 ≥ p_s.To)))

/-- catacomblaw22.LeaseTells -/
noncomputable def law22_LeaseTells (p_l : List api_Lease) (p_now : Int) (p_q : api_Lease) (p_long : Int) (p_s : api_Span) : Option Bool := (law22_head).bind fun x1 => if (decide ((p_l.length : Int) > 80)) then some x1 else (lease_Right p_l).bind fun x2 => (ref22_Right p_l).bind fun x3 => if (!(x2 == x3)) then some false else (ref22_Right p_l).bind fun x4 => if (!x4) then some x1 else (law22_time p_now).bind fun x5 => (lease_Ask p_l x5 p_q p_long).bind fun x6 => (ref22_Ask p_l x5 p_q p_long).bind fun x7 => ((if x1 then (ref22_Same x6.1 x7.1).bind fun x8 => some x8 else some false).bind fun c1 => (if c1 then some ((x6.2.1 == x7.2.1)) else some false).bind fun c2 => (if c2 then (ref14_Ints x6.2.2 x7.2.2).bind fun x9 => some x9 else some false).bind fun c3 => (if c3 then (lease_Over p_l x5).bind fun x10 => (ref22_Over p_l x5).bind fun x11 => (ref22_Same x10 x11).bind fun x12 => some x12 else some false).bind fun c4 => (if c4 then (lease_Back p_l p_q.Client p_q.Ino).bind fun x13 => (ref22_Back p_l p_q.Client p_q.Ino).bind fun x14 => (ref22_Same x13 x14).bind fun x15 => some x15 else some false).bind fun c5 => (if c5 then (lease_Has p_l p_q.Client p_q.Ino p_q.Kind p_s).bind fun x16 => (ref22_Has p_l p_q.Client p_q.Ino p_q.Kind p_s).bind fun x17 => some ((x16 == x17)) else some false).bind fun c6 => some c6).bind fun v1 => some v1

structure law22_Step where
  Do : Int
  Many : Int
  Q : api_Lease


noncomputable def law22_table_B1 (p_l : List law22_Step) (s1 : (List api_Lease) × Int × Int) : Option (((List api_Lease) × Int × Int) ⊕ ((List api_Lease) × Int)) := if (decide (s1.2.2 < (p_l.length : Int))) then ((idx p_l s1.2.2).bind fun x1 => if (x1.Do == 0) then (lease_Ask s1.1 s1.2.1 x1.Q x1.Many).bind fun x2 => some ((x2.1, s1.2.1)) else if (x1.Do == 1) then (lease_Back s1.1 x1.Q.Client x1.Q.Ino).bind fun x3 => some ((x3, s1.2.1)) else if (x1.Do == 2) then ((if (decide (x1.Many > 0)) then some ((decide (x1.Many < 1000))) else some false).bind fun c1 => some c1).bind fun v3 => if v3 then chk (InI64 (s1.2.1 + x1.Many)) (some ((s1.1, (s1.2.1 + x1.Many)))) else some ((s1.1, s1.2.1)) else (lease_Over s1.1 s1.2.1).bind fun x4 => some ((x4, s1.2.1))).bind fun v2 => chk (InI64 (s1.2.2 + 1)) (some (.inl ((v2.1, v2.2, (s1.2.2 + 1))))) else out (some ((s1.1, s1.2.1)))

noncomputable def law22_table_L1 (p_l : List law22_Step) (s1 : (List api_Lease) × Int × Int) : Option ((List api_Lease) × Int) := loop (law22_table_B1 p_l) s1

/-- catacomblaw22.table -/
noncomputable def law22_table (p_l : List law22_Step) : Option ((List api_Lease) × Int × Bool) := if (decide ((p_l.length : Int) > 40)) then some ((([] : List api_Lease), 0, false)) else (law22_table_L1 p_l ((([] : List api_Lease), 0, 0))).bind fun v1 => some ((v1.1, v1.2, true))

noncomputable def law22_LeaseApart_J1 (x1 : Bool) (_v1 : Unit) : Option Bool := some x1

noncomputable def law22_LeaseApart_J2 (s1 : Int) (_v3 : Unit) : Option ((Int) ⊕ Bool) := chk (InI64 (s1 + 1)) (some (.inl ((s1 + 1))))

noncomputable def law22_LeaseApart_J3 (s2 : Int) (_v5 : Unit) : Option ((Int) ⊕ ((Int) ⊕ Bool)) := chk (InI64 (s2 + 1)) (some (.inl ((s2 + 1))))

noncomputable def law22_LeaseApart_B3 (s2 : Int) (x2 : (List api_Lease) × Int × Bool) (s3 : Int) : Option ((Int) ⊕ ((Int) ⊕ ((Int) ⊕ Bool))) := if (decide (s3 < s2)) then (idx x2.1 s2).bind fun x6 => (idx x2.1 s3).bind fun x7 => (ref22_Clash x6 x7).bind fun x8 => if x8 then out (out (out (some false))) else chk (InI64 (s3 + 1)) (some (.inl ((s3 + 1)))) else out (law22_LeaseApart_J3 s2 (()))

noncomputable def law22_LeaseApart_L3 (s2 : Int) (x2 : (List api_Lease) × Int × Bool) (s3 : Int) : Option ((Int) ⊕ ((Int) ⊕ Bool)) := loop (law22_LeaseApart_B3 s2 x2) s3

noncomputable def law22_LeaseApart_B2 (x2 : (List api_Lease) × Int × Bool) (s1 : Int) (s2 : Int) : Option ((Int) ⊕ ((Int) ⊕ Bool)) := if (decide (s2 < (x2.1.length : Int))) then (idx x2.1 s2).bind fun x4 => (clock_Wait (64)).bind fun x5 => chk (InI64 (x2.2.1 + x5)) (if (decide (x4.Until > (x2.2.1 + x5))) then out (out (some false)) else law22_LeaseApart_L3 s2 x2 (0)) else out (law22_LeaseApart_J2 s1 (()))

noncomputable def law22_LeaseApart_L2 (x2 : (List api_Lease) × Int × Bool) (s1 : Int) (s2 : Int) : Option ((Int) ⊕ Bool) := loop (law22_LeaseApart_B2 x2 s1) s2

noncomputable def law22_LeaseApart_B1 (p_l : List law22_Step) (x1 : Bool) (s1 : Int) : Option ((Int) ⊕ Bool) := ((if (decide (s1 ≤ (p_l.length : Int))) then some ((decide (s1 ≤ 40))) else some false).bind fun c1 => some c1).bind fun v2 => if v2 then chk ((0 : Int) ≤ s1 ∧ s1 ≤ (p_l.length : Int)) ((law22_table ((p_l.take s1.toNat))).bind fun x2 => ((if (!x2.2.2) then some true else (lease_Right x2.1).bind fun x3 => some ((!x3))).bind fun c2 => (if c2 then some true else some ((decide ((x2.1.length : Int) > s1)))).bind fun c3 => some c3).bind fun v4 => if v4 then out (some false) else law22_LeaseApart_L2 x2 s1 (0)) else out (law22_LeaseApart_J1 x1 (()))

noncomputable def law22_LeaseApart_L1 (p_l : List law22_Step) (x1 : Bool) (s1 : Int) : Option Bool := loop (law22_LeaseApart_B1 p_l x1) s1

/-- catacomblaw22.LeaseApart -/
noncomputable def law22_LeaseApart (p_l : List law22_Step) : Option Bool := (law22_head).bind fun x1 => law22_LeaseApart_L1 p_l x1 (0)

noncomputable def law22_LeaseRecalls_B1 (x4 : (List api_Lease) × Bool × (List Int)) (p_q : api_Lease) (s1 : (List api_Lease) × Int) : Option (((List api_Lease) × Int) ⊕ ((List api_Lease))) := if (decide (s1.2 < (x4.2.2.length : Int))) then (idx x4.2.2 s1.2).bind fun x9 => (lease_Back s1.1 x9 p_q.Ino).bind fun x10 => chk (InI64 (s1.2 + 1)) (some (.inl ((x10, (s1.2 + 1))))) else out (some s1.1)

noncomputable def law22_LeaseRecalls_L1 (x4 : (List api_Lease) × Bool × (List Int)) (p_q : api_Lease) (s1 : (List api_Lease) × Int) : Option ((List api_Lease)) := loop (law22_LeaseRecalls_B1 x4 p_q) s1

noncomputable def law22_LeaseRecalls_B2 (x2 : (List api_Lease) × Int × Bool) (s2 : Int × Int) : Option ((Int × Int) ⊕ Int) := if (decide (s2.2 < (x2.1.length : Int))) then (idx x2.1 s2.2).bind fun x12 => chk (InI64 (s2.2 + 1)) (some (.inl (((max s2.1 x12.Until), (s2.2 + 1))))) else out (some s2.1)

noncomputable def law22_LeaseRecalls_L2 (x2 : (List api_Lease) × Int × Bool) (s2 : Int × Int) : Option Int := loop (law22_LeaseRecalls_B2 x2) s2

/-- catacomblaw22.LeaseRecalls -/
noncomputable def law22_LeaseRecalls (p_l : List law22_Step) (p_q : api_Lease) (p_long : Int) : Option Bool := (law22_head).bind fun x1 => (law22_table p_l).bind fun x2 => ((if (!x2.2.2) then some true else (ref22_One ((⟨p_q.Client, p_q.Ino, p_q.Kind, p_q.Span, 0, p_q.Epoch⟩ : api_Lease))).bind fun x3 => some ((!x3))).bind fun c1 => (if c1 then some true else some ((decide (p_long < 1)))).bind fun c2 => (if c2 then some true else some ((decide (p_long > 64)))).bind fun c3 => some c3).bind fun v1 => if v1 then some x1 else (lease_Ask x2.1 x2.2.1 ((⟨p_q.Client, p_q.Ino, p_q.Kind, p_q.Span, 0, p_q.Epoch⟩ : api_Lease)) p_long).bind fun x4 => (lease_Over x2.1 x2.2.1).bind fun x5 => ((ref22_Whose x5 ((⟨p_q.Client, p_q.Ino, p_q.Kind, p_q.Span, 0, p_q.Epoch⟩ : api_Lease))).bind fun x6 => (ref14_Ints x4.2.2 x6).bind fun x7 => (if (!x7) then some true else some ((!(x4.2.1 == ((x4.2.2.length : Int) == 0))))).bind fun c4 => (if c4 then some true else (if (!x4.2.1) then (ref22_Same x4.1 x5).bind fun x8 => some ((!x8)) else some false).bind fun c5 => some c5).bind fun c6 => some c6).bind fun v2 => if v2 then some false else (law22_LeaseRecalls_L1 x4 p_q ((x5, 0))).bind fun v3 => (lease_Ask v3 x2.2.1 ((⟨p_q.Client, p_q.Ino, p_q.Kind, p_q.Span, 0, p_q.Epoch⟩ : api_Lease)) p_long).bind fun x11 => (law22_LeaseRecalls_L2 x2 ((x2.2.1, 0))).bind fun v4 => (lease_Ask x2.1 v4 ((⟨p_q.Client, p_q.Ino, p_q.Kind, p_q.Span, 0, p_q.Epoch⟩ : api_Lease)) p_long).bind fun x13 => ((if x1 then some x11.2.1 else some false).bind fun c7 => (if c7 then some (((x11.2.2.length : Int) == 0)) else some false).bind fun c8 => (if c8 then (lease_Right x11.1).bind fun x14 => some x14 else some false).bind fun c9 => (if c9 then some x13.2.1 else some false).bind fun c10 => (if c10 then some (((x13.1.length : Int) == 1)) else some false).bind fun c11 => some c11).bind fun v5 => some v5

noncomputable def law22_LeaseShares_J1 (x1 : Bool) (v1 : (List api_Lease)) : Option Bool := ((if x1 then (lease_Right v1).bind fun x6 => some x6 else some false).bind fun c2 => some c2).bind fun v4 => some v4

noncomputable def law22_LeaseShares_J2 (s1 : (List api_Lease) × Int) (v2 : (List api_Lease)) : Option (((List api_Lease) × Int) ⊕ Bool) := chk (InI64 (s1.2 + 1)) (some (.inl ((v2, (s1.2 + 1)))))

noncomputable def law22_LeaseShares_B1 (p_l : List api_Lease) (p_now : Int) (x1 : Bool) (s1 : (List api_Lease) × Int) : Option (((List api_Lease) × Int) ⊕ Bool) := if (decide (s1.2 < (p_l.length : Int))) then (idx p_l s1.2).bind fun x2 => (ref22_One ((⟨x2.Client, x2.Ino, 1, x2.Span, 0, x2.Epoch⟩ : api_Lease))).bind fun x3 => if (!x3) then law22_LeaseShares_J2 s1 s1.1 else (law22_time p_now).bind fun x4 => (lease_Ask s1.1 x4 ((⟨x2.Client, x2.Ino, 1, x2.Span, 0, x2.Epoch⟩ : api_Lease)) (1)).bind fun x5 => ((if (!x5.2.1) then some true else some ((decide ((x5.2.2.length : Int) > 0)))).bind fun c1 => some c1).bind fun v3 => if v3 then out (some false) else law22_LeaseShares_J2 s1 x5.1 else out (law22_LeaseShares_J1 x1 s1.1)

noncomputable def law22_LeaseShares_L1 (p_l : List api_Lease) (p_now : Int) (x1 : Bool) (s1 : (List api_Lease) × Int) : Option Bool := loop (law22_LeaseShares_B1 p_l p_now x1) s1

/-- catacomblaw22.LeaseShares -/
noncomputable def law22_LeaseShares (p_l : List api_Lease) (p_now : Int) : Option Bool := (law22_head).bind fun x1 => if (decide ((p_l.length : Int) > 20)) then some x1 else law22_LeaseShares_L1 p_l p_now x1 ((([] : List api_Lease), 0))

/-- catacomblaw22.LeaseHas -/
noncomputable def law22_LeaseHas (p_l : List law22_Step) (p_q : api_Lease) (p_long : Int) (p_cut : List Int) : Option Bool := (law22_head).bind fun x1 => (law22_table p_l).bind fun x2 => (lease_Ask x2.1 x2.2.1 p_q p_long).bind fun x3 => ((if (!x2.2.2) then some true else some ((!x3.2.1))).bind fun c1 => some c1).bind fun v1 => if v1 then some x1 else chk (InI64 (p_q.Span.To - p_q.Span.From)) ((idx p_cut (0)).bind fun x4 => chk ((p_q.Span.To - p_q.Span.From) ≠ 0) (chk (InI64 (p_q.Span.From + (Int.tmod ((IntKind.i64.wrap x4)) ((p_q.Span.To - p_q.Span.From))))) (chk (InI64 ((p_q.Span.From + (Int.tmod ((IntKind.i64.wrap x4)) ((p_q.Span.To - p_q.Span.From)))) + 1)) ((idx p_cut (1)).bind fun x5 => chk (InI64 (p_q.Span.To - (p_q.Span.From + (Int.tmod ((IntKind.i64.wrap x4)) ((p_q.Span.To - p_q.Span.From)))))) (chk ((p_q.Span.To - (p_q.Span.From + (Int.tmod ((IntKind.i64.wrap x4)) ((p_q.Span.To - p_q.Span.From))))) ≠ 0) (chk (InI64 (((p_q.Span.From + (Int.tmod ((IntKind.i64.wrap x4)) ((p_q.Span.To - p_q.Span.From)))) + 1) + (Int.tmod ((IntKind.i64.wrap x5)) ((p_q.Span.To - (p_q.Span.From + (Int.tmod ((IntKind.i64.wrap x4)) ((p_q.Span.To - p_q.Span.From))))))))) (((lease_Has x3.1 p_q.Client p_q.Ino p_q.Kind p_q.Span).bind fun x6 => (if (!x6) then some true else (lease_Has x3.1 p_q.Client p_q.Ino p_q.Kind ((⟨(p_q.Span.From + (Int.tmod ((IntKind.i64.wrap x4)) ((p_q.Span.To - p_q.Span.From)))), (((p_q.Span.From + (Int.tmod ((IntKind.i64.wrap x4)) ((p_q.Span.To - p_q.Span.From)))) + 1) + (Int.tmod ((IntKind.i64.wrap x5)) ((p_q.Span.To - (p_q.Span.From + (Int.tmod ((IntKind.i64.wrap x4)) ((p_q.Span.To - p_q.Span.From))))))))⟩ : api_Span))).bind fun x7 => some ((!x7))).bind fun c2 => (if c2 then some true else (lease_Has x3.1 p_q.Client p_q.Ino (1) ((⟨(p_q.Span.From + (Int.tmod ((IntKind.i64.wrap x4)) ((p_q.Span.To - p_q.Span.From)))), (((p_q.Span.From + (Int.tmod ((IntKind.i64.wrap x4)) ((p_q.Span.To - p_q.Span.From)))) + 1) + (Int.tmod ((IntKind.i64.wrap x5)) ((p_q.Span.To - (p_q.Span.From + (Int.tmod ((IntKind.i64.wrap x4)) ((p_q.Span.To - p_q.Span.From))))))))⟩ : api_Span))).bind fun x8 => some ((!x8))).bind fun c3 => some c3).bind fun v2 => if v2 then some false else (lease_Back x3.1 p_q.Client p_q.Ino).bind fun x9 => chk (InI64 (x2.2.1 + 128)) ((lease_Over x3.1 ((x2.2.1 + 128))).bind fun x10 => ((if x1 then (lease_Has x9 p_q.Client p_q.Ino (1) ((⟨(p_q.Span.From + (Int.tmod ((IntKind.i64.wrap x4)) ((p_q.Span.To - p_q.Span.From)))), (((p_q.Span.From + (Int.tmod ((IntKind.i64.wrap x4)) ((p_q.Span.To - p_q.Span.From)))) + 1) + (Int.tmod ((IntKind.i64.wrap x5)) ((p_q.Span.To - (p_q.Span.From + (Int.tmod ((IntKind.i64.wrap x4)) ((p_q.Span.To - p_q.Span.From))))))))⟩ : api_Span))).bind fun x11 => some ((!x11)) else some false).bind fun c4 => (if c4 then (lease_Has x10 p_q.Client p_q.Ino (1) ((⟨(p_q.Span.From + (Int.tmod ((IntKind.i64.wrap x4)) ((p_q.Span.To - p_q.Span.From)))), (((p_q.Span.From + (Int.tmod ((IntKind.i64.wrap x4)) ((p_q.Span.To - p_q.Span.From)))) + 1) + (Int.tmod ((IntKind.i64.wrap x5)) ((p_q.Span.To - (p_q.Span.From + (Int.tmod ((IntKind.i64.wrap x4)) ((p_q.Span.To - p_q.Span.From))))))))⟩ : api_Span))).bind fun x12 => some ((!x12)) else some false).bind fun c5 => (if c5 then some (((x10.length : Int) == 0)) else some false).bind fun c6 => some c6).bind fun v3 => some v3))))))))

/-- clock.Least -/
noncomputable def clock_Least (p_real : Int) : Option Int := (clock_within p_real (0) (2199023255552)).bind fun x1 => (clock_span_least x1).bind fun x2 => some x2

/-- clock.Most -/
noncomputable def clock_Most (p_real : Int) : Option Int := (clock_within p_real (0) (2199023255552)).bind fun x1 => (clock_span_most x1).bind fun x2 => some x2

/-- catacomblaw03.Between -/
noncomputable def law03_Between (p_from : Int) (p_to : Int) (p_pick : Int) : Option Int := if (decide (p_to ≤ p_from)) then some p_from else chk (InI64 (p_to - p_from)) (chk (InI64 ((p_to - p_from) + 1)) (chk ((IntKind.u64.wrap (((p_to - p_from) + 1))) ≠ 0) (chk (InI64 (p_from + (IntKind.i64.wrap ((Int.tmod p_pick ((IntKind.u64.wrap (((p_to - p_from) + 1))))))))) (some ((p_from + (IntKind.i64.wrap ((Int.tmod p_pick ((IntKind.u64.wrap (((p_to - p_from) + 1)))))))))))))

noncomputable def law03_Shows_B2 (s1 : Int × (List Int)) (p_reals : List Int) (s2 : Int × Int × Int) : Option ((Int × Int × Int) ⊕ (Int × Int)) := if (decide (s2.2.2 < s1.1)) then (idx s1.2 s2.2.2).bind fun x1 => (idx p_reals s1.1).bind fun x2 => (idx p_reals s2.2.2).bind fun x3 => chk (InI64 (x2 - x3)) ((clock_Least ((x2 - x3))).bind fun x4 => chk (InI64 (x1 + x4)) ((idx s1.2 s2.2.2).bind fun x5 => (idx p_reals s1.1).bind fun x6 => (idx p_reals s2.2.2).bind fun x7 => chk (InI64 (x6 - x7)) ((clock_Most ((x6 - x7))).bind fun x8 => chk (InI64 (x5 + x8)) (chk (InI64 (s2.2.2 + 1)) (some (.inl (((max s2.1 ((x1 + x4))), (min s2.2.1 ((x5 + x8))), (s2.2.2 + 1))))))))) else out (some ((s2.1, s2.2.1)))

noncomputable def law03_Shows_L2 (s1 : Int × (List Int)) (p_reals : List Int) (s2 : Int × Int × Int) : Option (Int × Int) := loop (law03_Shows_B2 s1 p_reals) s2

noncomputable def law03_Shows_B1 (p_reals : List Int) (p_picks : List Int) (s1 : Int × (List Int)) : Option ((Int × (List Int)) ⊕ ((List Int))) := if (decide (s1.1 < (p_reals.length : Int))) then (if (s1.1 == 0) then chk ((s1.2.length + ([0]).length) * 8 ≤ 140737488355328) (some ((s1.2 ++ [0]))) else (law03_Shows_L2 s1 p_reals ((0, 4398046511104, 0))).bind fun v3 => (if (decide (s1.1 < (p_picks.length : Int))) then (idx p_picks s1.1).bind fun x9 => some ((IntKind.u64.wrap x9)) else some (0)).bind fun v4 => (law03_Between v3.1 v3.2 v4).bind fun x10 => chk ((s1.2.length + ([x10]).length) * 8 ≤ 140737488355328) (some ((s1.2 ++ [x10])))).bind fun v2 => chk (InI64 (s1.1 + 1)) (some (.inl (((s1.1 + 1), v2)))) else out (some s1.2)

noncomputable def law03_Shows_L1 (p_reals : List Int) (p_picks : List Int) (s1 : Int × (List Int)) : Option ((List Int)) := loop (law03_Shows_B1 p_reals p_picks) s1

/-- catacomblaw03.Shows -/
noncomputable def law03_Shows (p_reals : List Int) (p_picks : List Int) : Option ((List Int)) := (law03_Shows_L1 p_reals p_picks ((0, ([] : List Int)))).bind fun v1 => some v1

noncomputable def clock_Right_J1 (_v1 : Unit) : Option Bool := some true

noncomputable def clock_Right_J2 (s1 : Int) (_v2 : Unit) : Option ((Int) ⊕ Bool) := chk (InI64 (s1 + 1)) (some (.inl ((s1 + 1))))

noncomputable def clock_Right_B2 (s1 : Int) (p_reals : List Int) (x1 : Int) (p_shown : List Int) (s2 : Int) : Option ((Int) ⊕ ((Int) ⊕ Bool)) := if (decide (s2 < s1)) then (idx p_reals s2).bind fun x4 => chk (InI64 (x1 - x4)) ((idx p_shown s1).bind fun x5 => (idx p_shown s2).bind fun x6 => chk (InI64 (x5 - x6)) (((if (decide ((x1 - x4) < 0)) then some true else (clock_Least ((x1 - x4))).bind fun x7 => some ((decide ((x5 - x6) < x7)))).bind fun c4 => (if c4 then some true else (clock_Most ((x1 - x4))).bind fun x8 => some ((decide ((x5 - x6) > x8)))).bind fun c5 => some c5).bind fun v4 => if v4 then out (out (some false)) else chk (InI64 (s2 + 1)) (some (.inl ((s2 + 1)))))) else out (clock_Right_J2 s1 (()))

noncomputable def clock_Right_L2 (s1 : Int) (p_reals : List Int) (x1 : Int) (p_shown : List Int) (s2 : Int) : Option ((Int) ⊕ Bool) := loop (clock_Right_B2 s1 p_reals x1 p_shown) s2

noncomputable def clock_Right_B1 (p_reals : List Int) (p_shown : List Int) (s1 : Int) : Option ((Int) ⊕ Bool) := if (decide (s1 < (p_reals.length : Int))) then (idx p_reals s1).bind fun x1 => ((if (decide (x1 < 0)) then some true else some ((decide (x1 > 2199023255552)))).bind fun c1 => (if c1 then some true else (idx p_shown s1).bind fun x2 => some ((decide (x2 < 0)))).bind fun c2 => (if c2 then some true else (idx p_shown s1).bind fun x3 => some ((decide (x3 > 4398046511104)))).bind fun c3 => some c3).bind fun v3 => if v3 then out (some false) else clock_Right_L2 s1 p_reals x1 p_shown (0) else out (clock_Right_J1 (()))

noncomputable def clock_Right_L1 (p_reals : List Int) (p_shown : List Int) (s1 : Int) : Option Bool := loop (clock_Right_B1 p_reals p_shown) s1

/-- clock.Right -/
noncomputable def clock_Right (p_reals : List Int) (p_shown : List Int) : Option Bool := if ((p_reals.length : Int) != (p_shown.length : Int)) then some false else clock_Right_L1 p_reals p_shown (0)

noncomputable def law22_LeaseClocks_B1 (p_gaps : List Int) (s1 : Int × (List Int)) : Option ((Int × (List Int)) ⊕ ((List Int))) := if (decide (s1.1 < (p_gaps.length : Int))) then (idx s1.2 s1.1).bind fun x2 => (idx p_gaps s1.1).bind fun x3 => chk (InI64 (x2 + (Int.tmod ((IntKind.i64.wrap x3)) (200)))) (chk ((s1.2.length + ([(x2 + (Int.tmod ((IntKind.i64.wrap x3)) (200)))]).length) * 8 ≤ 140737488355328) (chk (InI64 (s1.1 + 1)) (some (.inl (((s1.1 + 1), (s1.2 ++ [(x2 + (Int.tmod ((IntKind.i64.wrap x3)) (200)))]))))))) else out (some s1.2)

noncomputable def law22_LeaseClocks_L1 (p_gaps : List Int) (s1 : Int × (List Int)) : Option ((List Int)) := loop (law22_LeaseClocks_B1 p_gaps) s1

noncomputable def law22_LeaseClocks_J1 (x1 : Bool) (_v5 : Unit) : Option Bool := some x1

noncomputable def law22_LeaseClocks_B2 (v2 : (List Int)) (x5 : (List Int)) (p_long : UInt8) (x4 : (List Int)) (x13 : (List api_Lease) × Bool × (List Int)) (v4 : Int × Int × Int × Int × Int × Int × Int × Int × Int × Int × Int × Int × Int × Int) (x1 : Bool) (s2 : Int) : Option ((Int) ⊕ Bool) := if (decide (s2 < (v2.length : Int))) then (idx x5 s2).bind fun x14 => (idx x5 (0)).bind fun x15 => chk (InI64 (x15 + (1 + (Int.tmod ((p_long.toNat : Int)) (64))))) ((idx x4 s2).bind fun x16 => (lease_Over x13.1 x16).bind fun x17 => (lease_Has x17 (1) (5) v4.2.2.1 ((⟨v4.2.2.2.1, v4.2.2.2.2.1⟩ : api_Span))).bind fun x18 => (idx x4 s2).bind fun x19 => (lease_Ask x13.1 x19 ((⟨v4.2.2.2.2.2.2.2.1, v4.2.2.2.2.2.2.2.2.1, v4.2.2.2.2.2.2.2.2.2.1, (⟨v4.2.2.2.2.2.2.2.2.2.2.1, v4.2.2.2.2.2.2.2.2.2.2.2.1⟩ : api_Span), v4.2.2.2.2.2.2.2.2.2.2.2.2.1, v4.2.2.2.2.2.2.2.2.2.2.2.2.2⟩ : api_Lease)) ((1 + (Int.tmod ((p_long.toNat : Int)) (64))))).bind fun x20 => ((if (decide (x14 < (x15 + (1 + (Int.tmod ((p_long.toNat : Int)) (64)))))) then (if (!x18) then some true else some x20.2.1).bind fun c3 => some c3 else some false).bind fun c4 => (if c4 then some true else some ((x20.2.1 == (decide ((x20.2.2.length : Int) > 0))))).bind fun c5 => (if c5 then some true else some ((!(x20.2.1 == (!x18))))).bind fun c6 => some c6).bind fun v6 => if v6 then out (some false) else chk (InI64 (s2 + 1)) (some (.inl ((s2 + 1))))) else out (law22_LeaseClocks_J1 x1 (()))

noncomputable def law22_LeaseClocks_L2 (v2 : (List Int)) (x5 : (List Int)) (p_long : UInt8) (x4 : (List Int)) (x13 : (List api_Lease) × Bool × (List Int)) (v4 : Int × Int × Int × Int × Int × Int × Int × Int × Int × Int × Int × Int × Int × Int) (x1 : Bool) (s2 : Int) : Option Bool := loop (law22_LeaseClocks_B2 v2 x5 p_long x4 x13 v4 x1) s2

/-- catacomblaw22.LeaseClocks -/
noncomputable def law22_LeaseClocks (p_gaps : List Int) (p_server : List Int) (p_client : List Int) (p_long : UInt8) (p_kind : Bool) : Option Bool := (law22_head).bind fun x1 => ((if (decide ((p_gaps.length : Int) < 2)) then some true else some ((decide ((p_gaps.length : Int) > 12)))).bind fun c1 => some c1).bind fun v1 => if v1 then some x1 else (law22_LeaseClocks_L1 p_gaps ((0, [0]))).bind fun v2 => (law03_Shows v2 p_server).bind fun x4 => (law03_Shows v2 p_client).bind fun x5 => ((clock_Right v2 x4).bind fun x6 => (if (!x6) then some true else (clock_Right v2 x5).bind fun x7 => some ((!x7))).bind fun c2 => some c2).bind fun v3 => if v3 then some x1 else chk (InI64 (1 + (Int.tmod ((p_long.toNat : Int)) (64)))) ((law22_ask (1) (2) (0) (8)).bind fun x8 => (law22_ask (2) (1) (4) (12)).bind fun x9 => (if p_kind then (law22_ask (1) (1) (0) (8)).bind fun x10 => (law22_ask (2) (2) (7) (9)).bind fun x11 => some ((x10.Client, x10.Ino, x10.Kind, x10.Span.From, x10.Span.To, x10.Until, x10.Epoch, x11.Client, x11.Ino, x11.Kind, x11.Span.From, x11.Span.To, x11.Until, x11.Epoch)) else some ((x8.Client, x8.Ino, x8.Kind, x8.Span.From, x8.Span.To, x8.Until, x8.Epoch, x9.Client, x9.Ino, x9.Kind, x9.Span.From, x9.Span.To, x9.Until, x9.Epoch))).bind fun v4 => (idx x4 (1)).bind fun x12 => (lease_Ask ([]) x12 ((⟨v4.1, v4.2.1, v4.2.2.1, (⟨v4.2.2.2.1, v4.2.2.2.2.1⟩ : api_Span), v4.2.2.2.2.2.1, v4.2.2.2.2.2.2.1⟩ : api_Lease)) ((1 + (Int.tmod ((p_long.toNat : Int)) (64))))).bind fun x13 => if (!x13.2.1) then some false else law22_LeaseClocks_L2 v2 x5 p_long x4 x13 v4 x1 (1))
end Go.Proofs
