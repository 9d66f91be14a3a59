/- The plain programs of this seat. No condition. -/
import Derived.Test.YthkihdinpdohbaaCat1
namespace Go.Proofs
set_option linter.all false
open Go Go.Cat

structure api_Span where
  From : Int
  To : Int


structure span_edge where
  at_ : Int
  set_ : Int
  begins_ : Bool


noncomputable def span_edges_B1 (p_l : List api_Span) (p_set : Int) (s1 : Int × (List span_edge)) : Option ((Int × (List span_edge)) ⊕ ((List span_edge))) := if (decide (s1.1 < (p_l.length : Int))) then ((idx p_l s1.1).bind fun x1 => if (decide ((max x1.From (0)) < (min x1.To (1099511627776)))) then chk ((s1.2.length + ([(⟨(max x1.From (0)), p_set, true⟩ : span_edge), (⟨(min x1.To (1099511627776)), p_set, false⟩ : span_edge)]).length) * 24 ≤ 140737488355328) (some ((s1.2 ++ [(⟨(max x1.From (0)), p_set, true⟩ : span_edge), (⟨(min x1.To (1099511627776)), p_set, false⟩ : span_edge)]))) else some s1.2).bind fun v2 => chk (InI64 (s1.1 + 1)) (some (.inl (((s1.1 + 1), v2)))) else out (some s1.2)

noncomputable def span_edges_L1 (p_l : List api_Span) (p_set : Int) (s1 : Int × (List span_edge)) : Option ((List span_edge)) := loop (span_edges_B1 p_l p_set) s1

/-- span.edges -/
noncomputable def span_edges (p_l : List api_Span) (p_set : Int) : Option ((List span_edge)) := (span_edges_L1 p_l p_set ((0, []))).bind fun v1 => some v1

/-- cmp.isNaN[int] -/
noncomputable def cmp_isNaN_int (p_x : Int) : Option Bool := some ((p_x != p_x))

/-- cmp.Compare[int] -/
noncomputable def cmp_Compare_int (p_x : Int) (p_y : Int) : Option Int := (cmp_isNaN_int p_x).bind fun x1 => (cmp_isNaN_int p_y).bind fun x2 => if x1 then if x2 then some (0) else some ((-1)) else if x2 then some (1) else if (decide (p_x < p_y)) then some ((-1)) else if (decide (p_x > p_y)) then some (1) else some (0)

/-- (span.asked).of$1 -/
noncomputable def span_asked_of_1 (p_x : span_edge) (p_y : span_edge) : Option Int := (cmp_Compare_int p_x.at_ p_y.at_).bind fun x1 => some x1

instance : Inhabited span_edge := ⟨(⟨0, 0, false⟩ : span_edge)⟩

/-- span.Add$1 -/
noncomputable def span_Add_1 (p_x : Bool) (p_y : Bool) : Option Bool := ((if p_x then some true else some p_y).bind fun c1 => some c1).bind fun v1 => some v1

noncomputable def span_asked_of__span_Add_1_B1 (x3 : List span_edge) (s1 : Int × Int × (List api_Span) × (List Int)) : Option ((Int × Int × (List api_Span) × (List Int)) ⊕ ((List api_Span))) := if (decide (s1.2.1 < (x3.length : Int))) then ((idx x3 s1.2.1).bind fun x4 => (if (!x4.begins_) then some ((-1)) else some (1)).bind fun v3 => (idx s1.2.2.2 x4.set_).bind fun x5 => chk (x4.set_ < 2) (chk (InI64 (x5 + v3)) ((idx s1.2.2.2 x4.set_).bind fun _ => chk (x4.set_ < 2) ((chk (InI64 (s1.2.1 + 1)) ((if (decide ((s1.2.1 + 1) < (x3.length : Int))) then chk (InI64 (s1.2.1 + 1)) ((idx x3 ((s1.2.1 + 1))).bind fun x7 => some ((x7.at_ == x4.at_))) else some false).bind fun c1 => some c1)).bind fun v4 => if v4 then some ((s1.1, s1.2.2.1, (s1.2.2.2.set x4.set_.toNat ((x5 + v3))))) else (idx ((s1.2.2.2.set x4.set_.toNat ((x5 + v3)))) (0)).bind fun x8 => (idx ((s1.2.2.2.set x4.set_.toNat ((x5 + v3)))) (1)).bind fun x9 => (span_Add_1 ((decide (x8 > 0))) ((decide (x9 > 0)))).bind fun x10 => (((if x10 then some ((decide (s1.1 < 0))) else some false).bind fun c2 => some c2).bind fun v6 => if v6 then some x4.at_ else some s1.1).bind fun v5 => ((if (!x10) then some ((decide (v5 ≥ 0))) else some false).bind fun c3 => some c3).bind fun v7 => if v7 then chk ((s1.2.2.1.length + ([(⟨v5, x4.at_⟩ : api_Span)]).length) * 16 ≤ 140737488355328) (some (((-1), (s1.2.2.1 ++ [(⟨v5, x4.at_⟩ : api_Span)]), (s1.2.2.2.set x4.set_.toNat ((x5 + v3)))))) else some ((v5, s1.2.2.1, (s1.2.2.2.set x4.set_.toNat ((x5 + v3))))))))).bind fun v2 => chk (InI64 (s1.2.1 + 1)) (some (.inl ((v2.1, (s1.2.1 + 1), v2.2.1, v2.2.2)))) else out (some s1.2.2.1)

noncomputable def span_asked_of__span_Add_1_L1 (x3 : List span_edge) (s1 : Int × Int × (List api_Span) × (List Int)) : Option ((List api_Span)) := loop (span_asked_of__span_Add_1_B1 x3) s1

/-- (span.asked).of -/
noncomputable def span_asked_of__span_Add_1 (p_a : List api_Span) (p_b : List api_Span) : Option ((List api_Span)) := (span_edges p_a (0)).bind fun x1 => (span_edges p_b (1)).bind fun x2 => chk ((x1.length + x2.length) * 24 ≤ 140737488355328) ((sortF span_asked_of_1 ((x1 ++ x2))).bind fun x3 => (span_asked_of__span_Add_1_L1 x3 (((-1), 0, [], (List.replicate 2 0)))).bind fun v1 => some v1)

/-- span.Add -/
noncomputable def span_Add (p_a : List api_Span) (p_b : List api_Span) : Option ((List api_Span)) := (span_asked_of__span_Add_1 p_a p_b).bind fun x1 => some x1

/-- span.Norm -/
noncomputable def span_Norm (p_l : List api_Span) : Option ((List api_Span)) := (span_Add p_l ([])).bind fun x1 => some x1

noncomputable def ref21_Same_J1 (_v1 : Unit) : Option Bool := some true

noncomputable def ref21_Same_B1 (p_a : List api_Span) (p_b : List api_Span) (s1 : Int) : Option ((Int) ⊕ Bool) := if (decide (s1 < (p_a.length : Int))) then (idx p_a s1).bind fun x1 => (idx p_b s1).bind fun x2 => if (!(x1.From == x2.From && (x1.To == x2.To && true))) then out (some false) else chk (InI64 (s1 + 1)) (some (.inl ((s1 + 1)))) else out (ref21_Same_J1 (()))

noncomputable def ref21_Same_L1 (p_a : List api_Span) (p_b : List api_Span) (s1 : Int) : Option Bool := loop (ref21_Same_B1 p_a p_b) s1

/-- catacombref21.Same -/
noncomputable def ref21_Same (p_a : List api_Span) (p_b : List api_Span) : Option Bool := if ((p_a.length : Int) != (p_b.length : Int)) then some false else ref21_Same_L1 p_a p_b (0)

/-- span.Cut$1 -/
noncomputable def span_Cut_1 (p_x : Bool) (p_y : Bool) : Option Bool := ((if p_x then some ((!p_y)) else some false).bind fun c1 => some c1).bind fun v1 => some v1

noncomputable def span_asked_of__span_Cut_1_B1 (x3 : List span_edge) (s1 : Int × Int × (List api_Span) × (List Int)) : Option ((Int × Int × (List api_Span) × (List Int)) ⊕ ((List api_Span))) := if (decide (s1.2.1 < (x3.length : Int))) then ((idx x3 s1.2.1).bind fun x4 => (if (!x4.begins_) then some ((-1)) else some (1)).bind fun v3 => (idx s1.2.2.2 x4.set_).bind fun x5 => chk (x4.set_ < 2) (chk (InI64 (x5 + v3)) ((idx s1.2.2.2 x4.set_).bind fun _ => chk (x4.set_ < 2) ((chk (InI64 (s1.2.1 + 1)) ((if (decide ((s1.2.1 + 1) < (x3.length : Int))) then chk (InI64 (s1.2.1 + 1)) ((idx x3 ((s1.2.1 + 1))).bind fun x7 => some ((x7.at_ == x4.at_))) else some false).bind fun c1 => some c1)).bind fun v4 => if v4 then some ((s1.1, s1.2.2.1, (s1.2.2.2.set x4.set_.toNat ((x5 + v3))))) else (idx ((s1.2.2.2.set x4.set_.toNat ((x5 + v3)))) (0)).bind fun x8 => (idx ((s1.2.2.2.set x4.set_.toNat ((x5 + v3)))) (1)).bind fun x9 => (span_Cut_1 ((decide (x8 > 0))) ((decide (x9 > 0)))).bind fun x10 => (((if x10 then some ((decide (s1.1 < 0))) else some false).bind fun c2 => some c2).bind fun v6 => if v6 then some x4.at_ else some s1.1).bind fun v5 => ((if (!x10) then some ((decide (v5 ≥ 0))) else some false).bind fun c3 => some c3).bind fun v7 => if v7 then chk ((s1.2.2.1.length + ([(⟨v5, x4.at_⟩ : api_Span)]).length) * 16 ≤ 140737488355328) (some (((-1), (s1.2.2.1 ++ [(⟨v5, x4.at_⟩ : api_Span)]), (s1.2.2.2.set x4.set_.toNat ((x5 + v3)))))) else some ((v5, s1.2.2.1, (s1.2.2.2.set x4.set_.toNat ((x5 + v3))))))))).bind fun v2 => chk (InI64 (s1.2.1 + 1)) (some (.inl ((v2.1, (s1.2.1 + 1), v2.2.1, v2.2.2)))) else out (some s1.2.2.1)

noncomputable def span_asked_of__span_Cut_1_L1 (x3 : List span_edge) (s1 : Int × Int × (List api_Span) × (List Int)) : Option ((List api_Span)) := loop (span_asked_of__span_Cut_1_B1 x3) s1

/-- (span.asked).of -/
noncomputable def span_asked_of__span_Cut_1 (p_a : List api_Span) (p_b : List api_Span) : Option ((List api_Span)) := (span_edges p_a (0)).bind fun x1 => (span_edges p_b (1)).bind fun x2 => chk ((x1.length + x2.length) * 24 ≤ 140737488355328) ((sortF span_asked_of_1 ((x1 ++ x2))).bind fun x3 => (span_asked_of__span_Cut_1_L1 x3 (((-1), 0, [], (List.replicate 2 0)))).bind fun v1 => some v1)

/-- span.Cut -/
noncomputable def span_Cut (p_a : List api_Span) (p_b : List api_Span) : Option ((List api_Span)) := (span_asked_of__span_Cut_1 p_a p_b).bind fun x1 => some x1

/-- span.Meet$1 -/
noncomputable def span_Meet_1 (p_x : Bool) (p_y : Bool) : Option Bool := ((if p_x then some p_y else some false).bind fun c1 => some c1).bind fun v1 => some v1

noncomputable def span_asked_of__span_Meet_1_B1 (x3 : List span_edge) (s1 : Int × Int × (List api_Span) × (List Int)) : Option ((Int × Int × (List api_Span) × (List Int)) ⊕ ((List api_Span))) := if (decide (s1.2.1 < (x3.length : Int))) then ((idx x3 s1.2.1).bind fun x4 => (if (!x4.begins_) then some ((-1)) else some (1)).bind fun v3 => (idx s1.2.2.2 x4.set_).bind fun x5 => chk (x4.set_ < 2) (chk (InI64 (x5 + v3)) ((idx s1.2.2.2 x4.set_).bind fun _ => chk (x4.set_ < 2) ((chk (InI64 (s1.2.1 + 1)) ((if (decide ((s1.2.1 + 1) < (x3.length : Int))) then chk (InI64 (s1.2.1 + 1)) ((idx x3 ((s1.2.1 + 1))).bind fun x7 => some ((x7.at_ == x4.at_))) else some false).bind fun c1 => some c1)).bind fun v4 => if v4 then some ((s1.1, s1.2.2.1, (s1.2.2.2.set x4.set_.toNat ((x5 + v3))))) else (idx ((s1.2.2.2.set x4.set_.toNat ((x5 + v3)))) (0)).bind fun x8 => (idx ((s1.2.2.2.set x4.set_.toNat ((x5 + v3)))) (1)).bind fun x9 => (span_Meet_1 ((decide (x8 > 0))) ((decide (x9 > 0)))).bind fun x10 => (((if x10 then some ((decide (s1.1 < 0))) else some false).bind fun c2 => some c2).bind fun v6 => if v6 then some x4.at_ else some s1.1).bind fun v5 => ((if (!x10) then some ((decide (v5 ≥ 0))) else some false).bind fun c3 => some c3).bind fun v7 => if v7 then chk ((s1.2.2.1.length + ([(⟨v5, x4.at_⟩ : api_Span)]).length) * 16 ≤ 140737488355328) (some (((-1), (s1.2.2.1 ++ [(⟨v5, x4.at_⟩ : api_Span)]), (s1.2.2.2.set x4.set_.toNat ((x5 + v3)))))) else some ((v5, s1.2.2.1, (s1.2.2.2.set x4.set_.toNat ((x5 + v3))))))))).bind fun v2 => chk (InI64 (s1.2.1 + 1)) (some (.inl ((v2.1, (s1.2.1 + 1), v2.2.1, v2.2.2)))) else out (some s1.2.2.1)

noncomputable def span_asked_of__span_Meet_1_L1 (x3 : List span_edge) (s1 : Int × Int × (List api_Span) × (List Int)) : Option ((List api_Span)) := loop (span_asked_of__span_Meet_1_B1 x3) s1

/-- (span.asked).of -/
noncomputable def span_asked_of__span_Meet_1 (p_a : List api_Span) (p_b : List api_Span) : Option ((List api_Span)) := (span_edges p_a (0)).bind fun x1 => (span_edges p_b (1)).bind fun x2 => chk ((x1.length + x2.length) * 24 ≤ 140737488355328) ((sortF span_asked_of_1 ((x1 ++ x2))).bind fun x3 => (span_asked_of__span_Meet_1_L1 x3 (((-1), 0, [], (List.replicate 2 0)))).bind fun v1 => some v1)

/-- span.Meet -/
noncomputable def span_Meet (p_a : List api_Span) (p_b : List api_Span) : Option ((List api_Span)) := (span_asked_of__span_Meet_1 p_a p_b).bind fun x1 => some x1

/-- span.Has$1 -/
noncomputable def span_Has_1 (p_s : api_Span) (p_a1_0 : Int) : Option Bool := ((if (decide (p_s.From ≤ p_a1_0)) then some ((decide (p_a1_0 < p_s.To))) else some false).bind fun c1 => some c1).bind fun v1 => some v1

noncomputable def slices_IndexFunc_api_Span_api_Span__span_Has_1_J1 (_v1 : Unit) : Option Int := some ((-1))

noncomputable def slices_IndexFunc_api_Span_api_Span__span_Has_1_B1 (p_s : List api_Span) (p_f_c0_0 : Int) (s1 : Int) : Option ((Int) ⊕ Int) := if (decide (s1 < (p_s.length : Int))) then (idx p_s s1).bind fun x1 => (span_Has_1 x1 p_f_c0_0).bind fun x2 => if x2 then out (some s1) else chk (InI64 (s1 + 1)) (some (.inl ((s1 + 1)))) else out (slices_IndexFunc_api_Span_api_Span__span_Has_1_J1 (()))

noncomputable def slices_IndexFunc_api_Span_api_Span__span_Has_1_L1 (p_s : List api_Span) (p_f_c0_0 : Int) (s1 : Int) : Option Int := loop (slices_IndexFunc_api_Span_api_Span__span_Has_1_B1 p_s p_f_c0_0) s1

/-- slices.IndexFunc[[]api.Span,api.Span] -/
noncomputable def slices_IndexFunc_api_Span_api_Span__span_Has_1 (p_s : List api_Span) (p_f_c0_0 : Int) : Option Int := slices_IndexFunc_api_Span_api_Span__span_Has_1_L1 p_s p_f_c0_0 (0)

/-- slices.ContainsFunc[[]api.Span,api.Span] -/
noncomputable def slices_ContainsFunc_api_Span_api_Span__span_Has_1 (p_s : List api_Span) (p_f_c0 : Int) : Option Bool := (slices_IndexFunc_api_Span_api_Span__span_Has_1 p_s p_f_c0).bind fun x1 => some ((decide (x1 ≥ 0)))

/-- span.Has -/
noncomputable def span_Has (p_l : List api_Span) (p_at : Int) : Option Bool := ((if (decide (p_at ≥ 0)) then some ((decide (p_at < 1099511627776))) else some false).bind fun c1 => (if c1 then (slices_ContainsFunc_api_Span_api_Span__span_Has_1 p_l p_at).bind fun x1 => some x1 else some false).bind fun c2 => some c2).bind fun v1 => some v1

noncomputable def span_Size_B1 (x1 : (List api_Span)) (s1 : Int × Int) : Option ((Int × Int) ⊕ Int) := if (decide (s1.2 < (x1.length : Int))) then (idx x1 s1.2).bind fun x2 => chk (InI64 (x2.To - x2.From)) (chk (InI64 (s1.1 + (x2.To - x2.From))) (chk (InI64 (s1.2 + 1)) (some (.inl (((s1.1 + (x2.To - x2.From)), (s1.2 + 1))))))) else out (some s1.1)

noncomputable def span_Size_L1 (x1 : (List api_Span)) (s1 : Int × Int) : Option Int := loop (span_Size_B1 x1) s1

/-- span.Size -/
noncomputable def span_Size (p_l : List api_Span) : Option Int := ((span_Norm p_l).bind fun x1 => span_Size_L1 x1 ((0, 0))).bind fun v1 => some v1

/-- catacomblaw21.head -/
noncomputable def law21_head : Option Bool := ((span_Norm ([(⟨3, 5⟩ : api_Span), (⟨1, 3⟩ : api_Span), (⟨9, 9⟩ : api_Span)])).bind fun x1 => (ref21_Same x1 ([(⟨1, 5⟩ : api_Span)])).bind fun x2 => (if x2 then (span_Cut ([(⟨0, 10⟩ : api_Span)]) ([(⟨3, 5⟩ : api_Span)])).bind fun x3 => (ref21_Same x3 ([(⟨0, 3⟩ : api_Span), (⟨5, 10⟩ : api_Span)])).bind fun x4 => some x4 else some false).bind fun c1 => (if c1 then (span_Meet ([(⟨0, 4⟩ : api_Span), (⟨6, 8⟩ : api_Span)]) ([(⟨3, 7⟩ : api_Span)])).bind fun x5 => (ref21_Same x5 ([(⟨3, 4⟩ : api_Span), (⟨6, 7⟩ : api_Span)])).bind fun x6 => some x6 else some false).bind fun c2 => (if c2 then (span_Add ([(⟨0, 4⟩ : api_Span), (⟨6, 8⟩ : api_Span)]) ([(⟨4, 6⟩ : api_Span)])).bind fun x7 => (ref21_Same x7 ([(⟨0, 8⟩ : api_Span)])).bind fun x8 => some x8 else some false).bind fun c3 => (if c3 then (span_Has ([(⟨3, 5⟩ : api_Span), (⟨1, 3⟩ : api_Span), (⟨9, 9⟩ : api_Span)]) (4)).bind fun x9 => some x9 else some false).bind fun c4 => (if c4 then (span_Has ([(⟨3, 5⟩ : api_Span), (⟨1, 3⟩ : api_Span), (⟨9, 9⟩ : api_Span)]) (9)).bind fun x10 => some ((!x10)) else some false).bind fun c5 => (if c5 then (span_Has ([(⟨(-5), 5⟩ : api_Span)]) ((-1))).bind fun x11 => some ((!x11)) else some false).bind fun c6 => (if c6 then (span_Size ([(⟨3, 5⟩ : api_Span), (⟨1, 3⟩ : api_Span), (⟨9, 9⟩ : api_Span)])).bind fun x12 => some ((x12 == 4)) else some false).bind fun c7 => some c7).bind fun v1 => some v1

/-- catacombref21.Few -/
noncomputable def ref21_Few (p_l : List api_Span) : Option ((List api_Span)) := chk ((0 : Int) ≤ (min ((p_l.length : Int)) (40)) ∧ (min ((p_l.length : Int)) (40)) ≤ (p_l.length : Int)) (chk (((([] : List api_Span)).length + ((p_l.take ((min ((p_l.length : Int)) (40))).toNat)).length) * 16 ≤ 140737488355328) (some ((([] : List api_Span) ++ (p_l.take ((min ((p_l.length : Int)) (40))).toNat)))))

noncomputable def ref21_into_B1 (p_l : List Int) (p_n : Int) (s1 : Int) : Option ((Int) ⊕ Int) := ((if (decide (s1 < (p_l.length : Int))) then (idx p_l s1).bind fun x1 => some ((decide (x1 < p_n))) else some false).bind fun c2 => some c2).bind fun v3 => if v3 then chk (InI64 (s1 + 1)) (some (.inl ((s1 + 1)))) else out (some s1)

noncomputable def ref21_into_L1 (p_l : List Int) (p_n : Int) (s1 : Int) : Option Int := loop (ref21_into_B1 p_l p_n) s1

/-- catacombref21.into -/
noncomputable def ref21_into (p_l : List Int) (p_n : Int) : Option ((List Int)) := ((if (decide (p_n < 0)) then some true else some ((decide (p_n > 1099511627776)))).bind fun c1 => some c1).bind fun v1 => if v1 then some p_l else (ref21_into_L1 p_l p_n (0)).bind fun v2 => ((if (decide (v2 < (p_l.length : Int))) then (idx p_l v2).bind fun x2 => some ((x2 == p_n)) else some false).bind fun c3 => some c3).bind fun v4 => if v4 then some p_l else chk ((0 : Int) ≤ v2 ∧ v2 ≤ (p_l.length : Int)) (chk (((([] : List Int)).length + ((p_l.take v2.toNat)).length) * 8 ≤ 140737488355328) (chk ((((([] : List Int) ++ (p_l.take v2.toNat))).length + ([p_n]).length) * 8 ≤ 140737488355328) (chk ((0 : Int) ≤ v2 ∧ v2 ≤ (p_l.length : Int)) (chk (((((([] : List Int) ++ (p_l.take v2.toNat)) ++ [p_n])).length + ((p_l.drop v2.toNat)).length) * 8 ≤ 140737488355328) (some ((((([] : List Int) ++ (p_l.take v2.toNat)) ++ [p_n]) ++ (p_l.drop v2.toNat))))))))

noncomputable def ref21_bounds_B1 (p_l : List api_Span) (s1 : (List Int) × Int) : Option (((List Int) × Int) ⊕ ((List Int))) := if (decide (s1.2 < (p_l.length : Int))) then (idx p_l s1.2).bind fun x1 => (ref21_into s1.1 x1.From).bind fun x2 => (idx p_l s1.2).bind fun x3 => (ref21_into x2 x3.To).bind fun x4 => chk (InI64 (s1.2 + 1)) (some (.inl ((x4, (s1.2 + 1))))) else out (some s1.1)

noncomputable def ref21_bounds_L1 (p_l : List api_Span) (s1 : (List Int) × Int) : Option ((List Int)) := loop (ref21_bounds_B1 p_l) s1

/-- catacombref21.bounds -/
noncomputable def ref21_bounds (p_l : List api_Span) : Option ((List Int)) := (ref21_bounds_L1 p_l (([0], 0))).bind fun v1 => some v1

noncomputable def ref21_Has_J1 (_v1 : Unit) : Option Bool := some false

noncomputable def ref21_Has_B1 (p_l : List api_Span) (p_at : Int) (s1 : Int) : Option ((Int) ⊕ Bool) := if (decide (s1 < (p_l.length : Int))) then ((idx p_l s1).bind fun x1 => (if (decide (p_at ≥ x1.From)) then (idx p_l s1).bind fun x2 => some ((decide (p_at < x2.To))) else some false).bind fun c1 => (if c1 then some ((decide (p_at ≥ 0))) else some false).bind fun c2 => (if c2 then some ((decide (p_at < 1099511627776))) else some false).bind fun c3 => some c3).bind fun v2 => if v2 then out (some true) else chk (InI64 (s1 + 1)) (some (.inl ((s1 + 1)))) else out (ref21_Has_J1 (()))

noncomputable def ref21_Has_L1 (p_l : List api_Span) (p_at : Int) (s1 : Int) : Option Bool := loop (ref21_Has_B1 p_l p_at) s1

/-- catacombref21.Has -/
noncomputable def ref21_Has (p_l : List api_Span) (p_at : Int) : Option Bool := ref21_Has_L1 p_l p_at (0)

noncomputable def ref21_of_B1 (x2 : (List Int)) (p_a : List api_Span) (p_b : List api_Span) (p_how : Int) (s1 : Int × (List api_Span)) : Option ((Int × (List api_Span)) ⊕ ((List api_Span))) := chk (InI64 (s1.1 + 1)) (if (decide ((s1.1 + 1) < (x2.length : Int))) then ((idx x2 s1.1).bind fun x3 => (ref21_Has p_a x3).bind fun x4 => (idx x2 s1.1).bind fun x5 => (ref21_Has p_b x5).bind fun x6 => ((if (p_how == 1) then (if x4 then some true else some x6).bind fun c1 => some c1 else some false).bind fun c2 => (if c2 then some true else (if (p_how == 2) then some x4 else some false).bind fun c3 => (if c3 then some ((!x6)) else some false).bind fun c4 => some c4).bind fun c5 => (if c5 then some true else (if (p_how == 3) then some x4 else some false).bind fun c6 => (if c6 then some x6 else some false).bind fun c7 => some c7).bind fun c8 => some c8).bind fun v3 => if (!v3) then some s1.2 else ((if (decide ((s1.2.length : Int) > 0)) then chk (InI64 ((s1.2.length : Int) - 1)) ((idx s1.2 (((s1.2.length : Int) - 1))).bind fun x7 => (idx x2 s1.1).bind fun x8 => some ((x7.To == x8))) else some false).bind fun c9 => some c9).bind fun v4 => if v4 then chk (InI64 ((s1.2.length : Int) - 1)) (chk (InI64 (s1.1 + 1)) ((idx x2 ((s1.1 + 1))).bind fun x9 => (idx s1.2 (((s1.2.length : Int) - 1))).bind fun x10 => some ((s1.2.set (((s1.2.length : Int) - 1)).toNat (⟨x10.From, x9⟩ : api_Span))))) else (idx x2 s1.1).bind fun x11 => chk (InI64 (s1.1 + 1)) ((idx x2 ((s1.1 + 1))).bind fun x12 => chk ((s1.2.length + ([(⟨x11, x12⟩ : api_Span)]).length) * 16 ≤ 140737488355328) (some ((s1.2 ++ [(⟨x11, x12⟩ : api_Span)]))))).bind fun v2 => chk (InI64 (s1.1 + 1)) (some (.inl (((s1.1 + 1), v2)))) else out (some s1.2))

noncomputable def ref21_of_L1 (x2 : (List Int)) (p_a : List api_Span) (p_b : List api_Span) (p_how : Int) (s1 : Int × (List api_Span)) : Option ((List api_Span)) := loop (ref21_of_B1 x2 p_a p_b p_how) s1

/-- catacombref21.of -/
noncomputable def ref21_of (p_a : List api_Span) (p_b : List api_Span) (p_how : Int) : Option ((List api_Span)) := chk (((([] : List api_Span)).length + p_a.length) * 16 ≤ 140737488355328) (chk ((((([] : List api_Span) ++ p_a)).length + p_b.length) * 16 ≤ 140737488355328) ((ref21_bounds (((([] : List api_Span) ++ p_a) ++ p_b))).bind fun x1 => (ref21_into x1 (1099511627776)).bind fun x2 => (ref21_of_L1 x2 p_a p_b p_how ((0, ([] : List api_Span)))).bind fun v1 => some v1))

/-- catacombref21.Norm -/
noncomputable def ref21_Norm (p_l : List api_Span) : Option ((List api_Span)) := (ref21_of p_l ([]) (1)).bind fun x1 => some x1

/-- catacombref21.Add -/
noncomputable def ref21_Add (p_a : List api_Span) (p_b : List api_Span) : Option ((List api_Span)) := (ref21_of p_a p_b (1)).bind fun x1 => some x1

/-- catacombref21.Cut -/
noncomputable def ref21_Cut (p_a : List api_Span) (p_b : List api_Span) : Option ((List api_Span)) := (ref21_of p_a p_b (2)).bind fun x1 => some x1

/-- catacombref21.Meet -/
noncomputable def ref21_Meet (p_a : List api_Span) (p_b : List api_Span) : Option ((List api_Span)) := (ref21_of p_a p_b (3)).bind fun x1 => some x1

noncomputable def ref21_Size_B1 (x1 : (List api_Span)) (s1 : Int × Int) : Option ((Int × Int) ⊕ Int) := if (decide (s1.2 < (x1.length : Int))) then (idx x1 s1.2).bind fun x2 => chk (InI64 (s1.1 + x2.To)) ((idx x1 s1.2).bind fun x3 => chk (InI64 ((s1.1 + x2.To) - x3.From)) (chk (InI64 (s1.2 + 1)) (some (.inl ((((s1.1 + x2.To) - x3.From), (s1.2 + 1))))))) else out (some s1.1)

noncomputable def ref21_Size_L1 (x1 : (List api_Span)) (s1 : Int × Int) : Option Int := loop (ref21_Size_B1 x1) s1

/-- catacombref21.Size -/
noncomputable def ref21_Size (p_l : List api_Span) : Option Int := (ref21_Norm p_l).bind fun x1 => (ref21_Size_L1 x1 ((0, 0))).bind fun v1 => some v1

/-- catacomblaw21.SpanTells -/
noncomputable def law21_SpanTells (p_x : List api_Span) (p_y : List api_Span) (p_at : Int) : Option Bool := (law21_head).bind fun x1 => (ref21_Few p_x).bind fun x2 => (ref21_Few p_y).bind fun x3 => ((if x1 then (span_Norm x2).bind fun x4 => (ref21_Norm x2).bind fun x5 => (ref21_Same x4 x5).bind fun x6 => some x6 else some false).bind fun c1 => (if c1 then (span_Add x2 x3).bind fun x7 => (ref21_Add x2 x3).bind fun x8 => (ref21_Same x7 x8).bind fun x9 => some x9 else some false).bind fun c2 => (if c2 then (span_Cut x2 x3).bind fun x10 => (ref21_Cut x2 x3).bind fun x11 => (ref21_Same x10 x11).bind fun x12 => some x12 else some false).bind fun c3 => (if c3 then (span_Meet x2 x3).bind fun x13 => (ref21_Meet x2 x3).bind fun x14 => (ref21_Same x13 x14).bind fun x15 => some x15 else some false).bind fun c4 => (if c4 then (span_Has x2 p_at).bind fun x16 => (ref21_Has x2 p_at).bind fun x17 => some ((x16 == x17)) else some false).bind fun c5 => (if c5 then (span_Size x2).bind fun x18 => (ref21_Size x2).bind fun x19 => some ((x18 == x19)) else some false).bind fun c6 => some c6).bind fun v1 => some v1

/-- catacomblaw21.near -/
noncomputable def law21_near (p_l : List api_Span) (p_at : Int) : Option Int := if ((p_l.length : Int) == 0) then some p_at else chk ((IntKind.i64.wrap (6 * (p_l.length : Int))) ≠ 0) (chk ((IntKind.i64.wrap (6 * (p_l.length : Int))) ≠ 0) ((idx p_l ((quoK .i64 ((Int.tmod ((IntKind.i64.wrap ((Int.tmod p_at ((IntKind.i64.wrap (6 * (p_l.length : Int))))) + (IntKind.i64.wrap (6 * (p_l.length : Int)))))) ((IntKind.i64.wrap (6 * (p_l.length : Int)))))) (6)))).bind fun x1 => if (decide ((Int.tmod ((Int.tmod ((IntKind.i64.wrap ((Int.tmod p_at ((IntKind.i64.wrap (6 * (p_l.length : Int))))) + (IntKind.i64.wrap (6 * (p_l.length : Int)))))) ((IntKind.i64.wrap (6 * (p_l.length : Int)))))) (6)) < 3)) then some ((IntKind.i64.wrap ((IntKind.i64.wrap (x1.From + (Int.tmod ((Int.tmod ((IntKind.i64.wrap ((Int.tmod p_at ((IntKind.i64.wrap (6 * (p_l.length : Int))))) + (IntKind.i64.wrap (6 * (p_l.length : Int)))))) ((IntKind.i64.wrap (6 * (p_l.length : Int)))))) (6)))) - 1))) else some ((IntKind.i64.wrap ((IntKind.i64.wrap (x1.To + (Int.tmod ((Int.tmod ((IntKind.i64.wrap ((Int.tmod p_at ((IntKind.i64.wrap (6 * (p_l.length : Int))))) + (IntKind.i64.wrap (6 * (p_l.length : Int)))))) ((IntKind.i64.wrap (6 * (p_l.length : Int)))))) (6)))) - 4)))))

noncomputable def law21_SpanPlaces_J1 (x1 : Bool) (_v1 : Unit) : Option Bool := some x1

noncomputable def law21_SpanPlaces_B1 (p_at : Int) (x4 : Int) (x5 : Int) (x2 : (List api_Span)) (x3 : (List api_Span)) (x1 : Bool) (s1 : Int) : Option ((Int) ⊕ Bool) := if (decide (s1 < (([p_at, x4, x5]).length : Int))) then (idx ([p_at, x4, x5]) s1).bind fun x6 => (span_Has x2 x6).bind fun x7 => (span_Has x3 x6).bind fun x8 => ((span_Norm x2).bind fun x9 => (span_Has x9 x6).bind fun x10 => (if (!(x10 == x7)) then some true else (span_Add x2 x3).bind fun x11 => (span_Has x11 x6).bind fun x12 => (if x7 then some true else some x8).bind fun c1 => some ((!(x12 == c1)))).bind fun c2 => (if c2 then some true else (span_Cut x2 x3).bind fun x13 => (span_Has x13 x6).bind fun x14 => (if x7 then some ((!x8)) else some false).bind fun c3 => some ((!(x14 == c3)))).bind fun c4 => (if c4 then some true else (span_Meet x2 x3).bind fun x15 => (span_Has x15 x6).bind fun x16 => (if x7 then some x8 else some false).bind fun c5 => some ((!(x16 == c5)))).bind fun c6 => some c6).bind fun v2 => if v2 then out (some false) else chk (InI64 (s1 + 1)) (some (.inl ((s1 + 1)))) else out (law21_SpanPlaces_J1 x1 (()))

noncomputable def law21_SpanPlaces_L1 (p_at : Int) (x4 : Int) (x5 : Int) (x2 : (List api_Span)) (x3 : (List api_Span)) (x1 : Bool) (s1 : Int) : Option Bool := loop (law21_SpanPlaces_B1 p_at x4 x5 x2 x3 x1) s1

/-- catacomblaw21.SpanPlaces -/
noncomputable def law21_SpanPlaces (p_x : List api_Span) (p_y : List api_Span) (p_at : Int) : Option Bool := (law21_head).bind fun x1 => (ref21_Few p_x).bind fun x2 => (ref21_Few p_y).bind fun x3 => chk (((([] : List api_Span)).length + x2.length) * 16 ≤ 140737488355328) (chk ((((([] : List api_Span) ++ x2)).length + x3.length) * 16 ≤ 140737488355328) ((law21_near (((([] : List api_Span) ++ x2) ++ x3)) p_at).bind fun x4 => (law21_near x2 ((quoK .i64 p_at (7)))).bind fun x5 => law21_SpanPlaces_L1 p_at x4 x5 x2 x3 x1 (0)))

noncomputable def ref21_Ordered_J1 (_v1 : Unit) : Option Bool := some true

noncomputable def ref21_Ordered_B1 (p_l : List api_Span) (s1 : Int) : Option ((Int) ⊕ Bool) := if (decide (s1 < (p_l.length : Int))) then ((idx p_l s1).bind fun x1 => (if (decide (x1.From < 0)) then some true else (idx p_l s1).bind fun x2 => some ((decide (x2.To > 1099511627776)))).bind fun c1 => (if c1 then some true else (idx p_l s1).bind fun x3 => (idx p_l s1).bind fun x4 => some ((decide (x3.From ≥ x4.To)))).bind fun c2 => (if c2 then some true else (if (decide (s1 > 0)) then (idx p_l s1).bind fun x5 => chk (InI64 (s1 - 1)) ((idx p_l ((s1 - 1))).bind fun x6 => some ((decide (x5.From ≤ x6.To)))) else some false).bind fun c3 => some c3).bind fun c4 => some c4).bind fun v2 => if v2 then out (some false) else chk (InI64 (s1 + 1)) (some (.inl ((s1 + 1)))) else out (ref21_Ordered_J1 (()))

noncomputable def ref21_Ordered_L1 (p_l : List api_Span) (s1 : Int) : Option Bool := loop (ref21_Ordered_B1 p_l) s1

/-- catacombref21.Ordered -/
noncomputable def ref21_Ordered (p_l : List api_Span) : Option Bool := ref21_Ordered_L1 p_l (0)

noncomputable def law21_SpanOrder_B1 (x2 : (List api_Span)) (s1 : Int × (List api_Span)) : Option ((Int × (List api_Span)) ⊕ ((List api_Span))) := if (decide (s1.1 ≥ 0)) then (idx x2 s1.1).bind fun x5 => chk ((s1.2.length + ([x5]).length) * 16 ≤ 140737488355328) (chk (InI64 (s1.1 - 1)) (some (.inl (((s1.1 - 1), (s1.2 ++ [x5])))))) else out (some s1.2)

noncomputable def law21_SpanOrder_L1 (x2 : (List api_Span)) (s1 : Int × (List api_Span)) : Option ((List api_Span)) := loop (law21_SpanOrder_B1 x2) s1

/-- catacomblaw21.SpanOrder -/
noncomputable def law21_SpanOrder (p_x : List api_Span) (p_y : List api_Span) : Option Bool := (law21_head).bind fun x1 => (ref21_Few p_x).bind fun x2 => (ref21_Few p_y).bind fun x3 => (span_Norm x2).bind fun x4 => (chk (InI64 ((x2.length : Int) - 1)) (law21_SpanOrder_L1 x2 ((((x2.length : Int) - 1), ([] : List api_Span))))).bind fun v1 => chk (((([] : List api_Span)).length + x2.length) * 16 ≤ 140737488355328) (chk ((((([] : List api_Span) ++ x2)).length + v1.length) * 16 ≤ 140737488355328) (((ref21_Ordered x4).bind fun x6 => (if (!x6) then some true else (span_Add x2 x3).bind fun x7 => (ref21_Ordered x7).bind fun x8 => some ((!x8))).bind fun c1 => (if c1 then some true else (span_Cut x2 x3).bind fun x9 => (ref21_Ordered x9).bind fun x10 => some ((!x10))).bind fun c2 => (if c2 then some true else (span_Meet x2 x3).bind fun x11 => (ref21_Ordered x11).bind fun x12 => some ((!x12))).bind fun c3 => some c3).bind fun v2 => if v2 then some false else ((if x1 then (span_Norm x4).bind fun x13 => (ref21_Same x13 x4).bind fun x14 => some x14 else some false).bind fun c4 => (if c4 then (span_Norm v1).bind fun x15 => (ref21_Same x15 x4).bind fun x16 => some x16 else some false).bind fun c5 => (if c5 then (span_Norm (((([] : List api_Span) ++ x2) ++ v1))).bind fun x17 => (ref21_Same x17 x4).bind fun x18 => some x18 else some false).bind fun c6 => (if c6 then (span_Add x2 ([])).bind fun x19 => (ref21_Same x19 x4).bind fun x20 => some x20 else some false).bind fun c7 => (if c7 then (span_Add x4 x2).bind fun x21 => (ref21_Same x21 x4).bind fun x22 => some x22 else some false).bind fun c8 => some c8).bind fun v3 => some v3))

/-- catacomblaw21.SpanSets -/
noncomputable def law21_SpanSets (p_x : List api_Span) (p_y : List api_Span) (p_z : List api_Span) : Option Bool := (law21_head).bind fun x1 => (ref21_Few p_x).bind fun x2 => (ref21_Few p_y).bind fun x3 => (ref21_Few p_z).bind fun x4 => (span_Cut x2 x3).bind fun x5 => (span_Meet x2 x3).bind fun x6 => ((span_Meet x5 x6).bind fun x7 => (if (decide ((x7.length : Int) > 0)) then some true else (span_Add x5 x6).bind fun x8 => (span_Norm x2).bind fun x9 => (ref21_Same x8 x9).bind fun x10 => some ((!x10))).bind fun c1 => (if c1 then some true else (span_Meet x5 x3).bind fun x11 => some ((decide ((x11.length : Int) > 0)))).bind fun c2 => some c2).bind fun v1 => if v1 then some false else ((span_Add x2 x3).bind fun x12 => (span_Add x3 x2).bind fun x13 => (ref21_Same x12 x13).bind fun x14 => (if (!x14) then some true else (span_Meet x3 x2).bind fun x15 => (ref21_Same x6 x15).bind fun x16 => some ((!x16))).bind fun c3 => (if c3 then some true else (span_Cut x2 x2).bind fun x17 => some ((decide ((x17.length : Int) > 0)))).bind fun c4 => (if c4 then some true else (span_Meet x2 x2).bind fun x18 => (span_Norm x2).bind fun x19 => (ref21_Same x18 x19).bind fun x20 => some ((!x20))).bind fun c5 => some c5).bind fun v2 => if v2 then some false else ((if x1 then (span_Cut x5 x4).bind fun x21 => (span_Add x3 x4).bind fun x22 => (span_Cut x2 x22).bind fun x23 => (ref21_Same x21 x23).bind fun x24 => some x24 else some false).bind fun c6 => (if c6 then (span_Add x2 x3).bind fun x25 => (span_Add x25 x4).bind fun x26 => (span_Add x3 x4).bind fun x27 => (span_Add x2 x27).bind fun x28 => (ref21_Same x26 x28).bind fun x29 => some x29 else some false).bind fun c7 => (if c7 then (span_Add x3 x4).bind fun x30 => (span_Meet x2 x30).bind fun x31 => (span_Meet x2 x4).bind fun x32 => (span_Add x6 x32).bind fun x33 => (ref21_Same x31 x33).bind fun x34 => some x34 else some false).bind fun c8 => some c8).bind fun v3 => some v3

noncomputable def law21_SpanSize_B1 (x8 : (List api_Span)) (s1 : Int × Int) : Option ((Int × Int) ⊕ Int) := if (decide (s1.2 < (x8.length : Int))) then chk (InI64 (s1.2 + 1)) (chk ((0 : Int) ≤ s1.2 ∧ s1.2 ≤ (s1.2 + 1) ∧ (s1.2 + 1) ≤ (x8.length : Int)) ((span_Size ((sub x8 s1.2 ((s1.2 + 1))))).bind fun x9 => chk (InI64 (s1.1 + x9)) (chk (InI64 (s1.2 + 1)) (some (.inl (((s1.1 + x9), (s1.2 + 1)))))))) else out (some s1.1)

noncomputable def law21_SpanSize_L1 (x8 : (List api_Span)) (s1 : Int × Int) : Option Int := loop (law21_SpanSize_B1 x8) s1

/-- catacomblaw21.SpanSize -/
noncomputable def law21_SpanSize (p_x : List api_Span) (p_y : List api_Span) : Option Bool := (law21_head).bind fun x1 => (ref21_Few p_x).bind fun x2 => (ref21_Few p_y).bind fun x3 => (span_Size x2).bind fun x4 => (span_Size x3).bind fun x5 => (span_Meet x2 x3).bind fun x6 => (span_Size x6).bind fun x7 => (span_Norm x2).bind fun x8 => (law21_SpanSize_L1 x8 ((0, 0))).bind fun v1 => ((if x1 then some ((decide (x4 ≥ 0))) else some false).bind fun c1 => (if c1 then some ((decide (x4 ≤ 1099511627776))) else some false).bind fun c2 => (if c2 then some ((x4 == v1)) else some false).bind fun c3 => (if c3 then some (((x4 == 0) == ((x8.length : Int) == 0))) else some false).bind fun c4 => (if c4 then (span_Cut x2 x3).bind fun x10 => (span_Size x10).bind fun x11 => chk (InI64 (x11 + x7)) (some (((x11 + x7) == x4))) else some false).bind fun c5 => (if c5 then (span_Add x2 x3).bind fun x12 => (span_Size x12).bind fun x13 => chk (InI64 (x13 + x7)) (chk (InI64 (x4 + x5)) (some (((x13 + x7) == (x4 + x5))))) else some false).bind fun c6 => some c6).bind fun v2 => some v2

/-- catacomblaw21.SpanOnly -/
noncomputable def law21_SpanOnly (p_x : List api_Span) (p_y : List api_Span) : Option Bool := (law21_head).bind fun x1 => (ref21_Few p_x).bind fun x2 => (ref21_Few p_y).bind fun x3 => (span_Norm x2).bind fun x4 => (span_Norm x3).bind fun x5 => (ref21_Same x4 x5).bind fun x6 => ((if x1 then (span_Cut x2 x3).bind fun x7 => (span_Cut x3 x2).bind fun x8 => chk (InI64 ((x7.length : Int) + (x8.length : Int))) (some ((x6 == (((x7.length : Int) + (x8.length : Int)) == 0)))) else some false).bind fun c1 => (if c1 then (if (!x6) then some true else (span_Size x2).bind fun x9 => (span_Size x3).bind fun x10 => some ((x9 == x10))).bind fun c2 => some c2 else some false).bind fun c3 => some c3).bind fun v1 => some v1
end Go.Proofs
