/- The plain programs of this seat. No condition. -/
import Derived.Test.YtcbpphgndncebaaCat1
namespace Go.Proofs
set_option linter.all false
open Go Go.Cat

structure api_Job where
  Id : Int
  Ver : Int
  From : Int
  To : Int
  Have : Int
  Left : Int


/-- catacomblaw28.job -/
noncomputable def law28_job (p_have : Int) (p_id : Int) (p_to : Int) (p_left : Int) : Option api_Job := some ((⟨p_id, 0, 9, p_to, p_have, p_left⟩ : api_Job))

/-- mend.within -/
noncomputable def mend_within (p_n : Int) (p_from : Int) (p_to : Int) : Option Bool := ((if (decide (p_n ≥ p_from)) then some ((decide (p_n ≤ p_to))) else some false).bind fun c1 => some c1).bind fun v1 => some v1

/-- mend.may -/
noncomputable def mend_may (p_j : api_Job) : Option Bool := ((mend_within p_j.Id (0) (199)).bind fun x1 => (if x1 then (mend_within p_j.Ver (0) (1099511627776)).bind fun x2 => some x2 else some false).bind fun c1 => (if c1 then (mend_within p_j.From (0) (1099511627776)).bind fun x3 => some x3 else some false).bind fun c2 => (if c2 then (mend_within p_j.To (0) (1099511627776)).bind fun x4 => some x4 else some false).bind fun c3 => (if c3 then some ((p_j.From != p_j.To)) else some false).bind fun c4 => (if c4 then (mend_within p_j.Have (1) (5)).bind fun x5 => some x5 else some false).bind fun c5 => (if c5 then (mend_within p_j.Left (1) (65)).bind fun x6 => some x6 else some false).bind fun c6 => some c6).bind fun v1 => some v1

structure mend_spot where
  id_ : Int
  to_ : Int


/-- mend.of -/
noncomputable def mend_of (p_j : api_Job) : Option mend_spot := some ((⟨p_j.Id, p_j.To⟩ : mend_spot))

/-- (mend.spot).is -/
noncomputable def mend_spot_is (p_s : mend_spot) (p_j : api_Job) : Option Bool := (mend_of p_j).bind fun x1 => some ((x1.id_ == p_s.id_ && (x1.to_ == p_s.to_ && true)))

noncomputable def slices_IndexFunc_api_Job_api_Job__mend_spot_is_J1 (_v1 : Unit) : Option Int := some ((-1))

noncomputable def slices_IndexFunc_api_Job_api_Job__mend_spot_is_B1 (p_s : List api_Job) (p_f_f0 : mend_spot) (s1 : Int) : Option ((Int) ⊕ Int) := if (decide (s1 < (p_s.length : Int))) then (idx p_s s1).bind fun x1 => (mend_spot_is p_f_f0 x1).bind fun x2 => if x2 then out (some s1) else chk (InI64 (s1 + 1)) (some (.inl ((s1 + 1)))) else out (slices_IndexFunc_api_Job_api_Job__mend_spot_is_J1 (()))

noncomputable def slices_IndexFunc_api_Job_api_Job__mend_spot_is_L1 (p_s : List api_Job) (p_f_f0 : mend_spot) (s1 : Int) : Option Int := loop (slices_IndexFunc_api_Job_api_Job__mend_spot_is_B1 p_s p_f_f0) s1

/-- slices.IndexFunc[[]api.Job,api.Job] -/
noncomputable def slices_IndexFunc_api_Job_api_Job__mend_spot_is (p_s : List api_Job) (p_f_f0 : mend_spot) : Option Int := slices_IndexFunc_api_Job_api_Job__mend_spot_is_L1 p_s p_f_f0 (0)

/-- slices.ContainsFunc[[]api.Job,api.Job] -/
noncomputable def slices_ContainsFunc_api_Job_api_Job__mend_spot_is (p_s : List api_Job) (p_f_f0 : mend_spot) : Option Bool := (slices_IndexFunc_api_Job_api_Job__mend_spot_is p_s p_f_f0).bind fun x1 => some ((decide (x1 ≥ 0)))

/-- cmp.isNaN[int] -/
noncomputable def cmp_isNaN_int (p_x : Int) : Option Bool := some ((p_x != p_x))

/-- cmp.Compare[int] -/
noncomputable def cmp_Compare_int (p_x : Int) (p_y : Int) : Option Int := (cmp_isNaN_int p_x).bind fun x1 => (cmp_isNaN_int p_y).bind fun x2 => if x1 then if x2 then some (0) else some ((-1)) else if x2 then some (1) else if (decide (p_x < p_y)) then some ((-1)) else if (decide (p_x > p_y)) then some (1) else some (0)

noncomputable def cmp_Or_int_J1 (_v1 : Unit) : Option Int := some (0)

noncomputable def cmp_Or_int_B1 (p_vals : List Int) (s1 : Int) : Option ((Int) ⊕ Int) := if (decide (s1 < (p_vals.length : Int))) then (idx p_vals s1).bind fun x1 => if (x1 != 0) then out (some x1) else chk (InI64 (s1 + 1)) (some (.inl ((s1 + 1)))) else out (cmp_Or_int_J1 (()))

noncomputable def cmp_Or_int_L1 (p_vals : List Int) (s1 : Int) : Option Int := loop (cmp_Or_int_B1 p_vals) s1

/-- cmp.Or[int] -/
noncomputable def cmp_Or_int (p_vals : List Int) : Option Int := cmp_Or_int_L1 p_vals (0)

/-- mend.against -/
noncomputable def mend_against (p_a : api_Job) (p_b : api_Job) : Option Int := (cmp_Compare_int p_a.Have p_b.Have).bind fun x1 => (cmp_Compare_int p_a.Id p_b.Id).bind fun x2 => (cmp_Compare_int p_a.To p_b.To).bind fun x3 => (cmp_Or_int ([x1, x2, x3])).bind fun x4 => some x4

instance : Inhabited api_Job := ⟨(⟨0, 0, 0, 0, 0, 0⟩ : api_Job)⟩

noncomputable def mend_Order_B1 (p_l : List api_Job) (s1 : Int × (List api_Job)) : Option ((Int × (List api_Job)) ⊕ ((List api_Job))) := if (decide (s1.1 < (p_l.length : Int))) then ((idx p_l s1.1).bind fun x1 => ((mend_may x1).bind fun x2 => (if x2 then (mend_of x1).bind fun x3 => (slices_ContainsFunc_api_Job_api_Job__mend_spot_is s1.2 x3).bind fun x4 => some ((!x4)) else some false).bind fun c1 => some c1).bind fun v3 => if v3 then chk ((s1.2.length + ([x1]).length) * 48 ≤ 140737488355328) (some ((s1.2 ++ [x1]))) else some s1.2).bind fun v2 => chk (InI64 (s1.1 + 1)) (some (.inl (((s1.1 + 1), v2)))) else out (some s1.2)

noncomputable def mend_Order_L1 (p_l : List api_Job) (s1 : Int × (List api_Job)) : Option ((List api_Job)) := loop (mend_Order_B1 p_l) s1

/-- mend.Order -/
noncomputable def mend_Order (p_l : List api_Job) : Option ((List api_Job)) := (mend_Order_L1 p_l ((0, []))).bind fun v1 => (sortF mend_against v1).bind fun x5 => some x5

/-- slices.Clone[[]api.Job,api.Job] -/
noncomputable def slices_Clone_api_Job_api_Job (p_s : List api_Job) : Option ((List api_Job)) := anyOf (fun b1 => b1 = true → p_s = []) fun b1 => if b1 then some ([]) else chk (((([] : List api_Job)).length + p_s.length) * 48 ≤ 140737488355328) (some ((([] : List api_Job) ++ p_s)))

noncomputable def mend_Step_B1 (x1 : (List api_Job)) (s1 : Int × Nat × (List api_Job)) : Option ((Int × Nat × (List api_Job)) ⊕ (Nat × (List api_Job) × (List api_Job))) := if (decide (((x1.drop s1.2.1).length : Int) > 0)) then (idx (x1.drop s1.2.1) (0)).bind fun x2 => if (decide (s1.1 ≥ x2.Left)) then chk (InI64 (s1.1 - x2.Left)) (chk ((s1.2.2.length + ([(⟨x2.Id, x2.Ver, x2.From, x2.To, x2.Have, 0⟩ : api_Job)]).length) * 48 ≤ 140737488355328) (chk ((s1.2.1 : Int) + (1 : Int) ≤ (x1.length : Int)) (some (.inl (((s1.1 - x2.Left), (s1.2.1 + 1), (s1.2.2 ++ [(⟨x2.Id, x2.Ver, x2.From, x2.To, x2.Have, 0⟩ : api_Job)]))))))) else (idx (x1.drop s1.2.1) (0)).bind fun x3 => chk (InI64 (x3.Left - (max s1.1 (0)))) ((idx (x1.drop s1.2.1) (0)).bind fun x4 => out (some ((s1.2.1, s1.2.2, (x1.set (s1.2.1 + (0 : Int).toNat) (⟨x4.Id, x4.Ver, x4.From, x4.To, x4.Have, (x3.Left - (max s1.1 (0)))⟩ : api_Job)))))) else out (some ((s1.2.1, s1.2.2, x1)))

noncomputable def mend_Step_L1 (x1 : (List api_Job)) (s1 : Int × Nat × (List api_Job)) : Option (Nat × (List api_Job) × (List api_Job)) := loop (mend_Step_B1 x1) s1

/-- mend.Step -/
noncomputable def mend_Step (p_l : List api_Job) (p_budget : Int) : Option ((List api_Job) × (List api_Job)) := (slices_Clone_api_Job_api_Job p_l).bind fun x1 => (mend_Step_L1 x1 ((p_budget, 0, []))).bind fun v1 => some (((v1.2.2.drop v1.1), v1.2.1))

noncomputable def mend_Renew_B1 (x1 : (List api_Job)) (p_l : List api_Job) (s1 : Int × (List api_Job)) : Option ((Int × (List api_Job)) ⊕ ((List api_Job))) := if (decide (s1.1 < (x1.length : Int))) then ((idx s1.2 s1.1).bind fun x2 => (mend_of x2).bind fun x3 => (slices_IndexFunc_api_Job_api_Job__mend_spot_is p_l x3).bind fun x4 => ((if (decide (x4 ≥ 0)) then (idx p_l x4).bind fun x5 => some ((x5.Ver == x2.Ver)) else some false).bind fun c1 => some c1).bind fun v3 => if v3 then (idx p_l x4).bind fun x6 => (idx s1.2 s1.1).bind fun x7 => some ((s1.2.set s1.1.toNat (⟨x7.Id, x7.Ver, x7.From, x7.To, x7.Have, (min x2.Left x6.Left)⟩ : api_Job))) else some s1.2).bind fun v2 => chk (InI64 (s1.1 + 1)) (some (.inl (((s1.1 + 1), v2)))) else out (some s1.2)

noncomputable def mend_Renew_L1 (x1 : (List api_Job)) (p_l : List api_Job) (s1 : Int × (List api_Job)) : Option ((List api_Job)) := loop (mend_Renew_B1 x1 p_l) s1

/-- mend.Renew -/
noncomputable def mend_Renew (p_l : List api_Job) (p_plan : List api_Job) : Option ((List api_Job)) := (slices_Clone_api_Job_api_Job p_plan).bind fun x1 => (mend_Renew_L1 x1 p_l ((0, x1))).bind fun v1 => some v1

noncomputable def ref27_SameJobs_J1 (_v1 : Unit) : Option Bool := some true

noncomputable def ref27_SameJobs_B1 (p_a : List api_Job) (p_b : List api_Job) (s1 : Int) : Option ((Int) ⊕ Bool) := if (decide (s1 < (p_a.length : Int))) then (idx p_a s1).bind fun x1 => (idx p_b s1).bind fun x2 => if (!(x1.Id == x2.Id && (x1.Ver == x2.Ver && (x1.From == x2.From && (x1.To == x2.To && (x1.Have == x2.Have && (x1.Left == x2.Left && true))))))) then out (some false) else chk (InI64 (s1 + 1)) (some (.inl ((s1 + 1)))) else out (ref27_SameJobs_J1 (()))

noncomputable def ref27_SameJobs_L1 (p_a : List api_Job) (p_b : List api_Job) (s1 : Int) : Option Bool := loop (ref27_SameJobs_B1 p_a p_b) s1

/-- catacombref27.SameJobs -/
noncomputable def ref27_SameJobs (p_a : List api_Job) (p_b : List api_Job) : Option Bool := if ((p_a.length : Int) != (p_b.length : Int)) then some false else ref27_SameJobs_L1 p_a p_b (0)

noncomputable def mend_Steps_B1 (p_l : List api_Job) (s1 : Int × Int) : Option ((Int × Int) ⊕ Int) := if (decide (s1.2 < (p_l.length : Int))) then (idx p_l s1.2).bind fun x1 => chk (InI64 (s1.1 + x1.Left)) (chk (InI64 (s1.2 + 1)) (some (.inl (((s1.1 + x1.Left), (s1.2 + 1)))))) else out (some s1.1)

noncomputable def mend_Steps_L1 (p_l : List api_Job) (s1 : Int × Int) : Option Int := loop (mend_Steps_B1 p_l) s1

/-- mend.Steps -/
noncomputable def mend_Steps (p_l : List api_Job) (p_budget : Int) : Option Int := (mend_Steps_L1 p_l ((0, 0))).bind fun v1 => if (v1 == 0) then some (0) else if (decide (p_budget < 1)) then some ((-1)) else chk (InI64 (v1 - 1)) (chk (p_budget ≠ 0) (chk (InI64 (1 + (quoK .i64 ((v1 - 1)) p_budget))) (some ((1 + (quoK .i64 ((v1 - 1)) p_budget))))))

noncomputable def mend_Right_J1 (_v1 : Unit) : Option Bool := some true

noncomputable def mend_Right_B1 (p_l : List api_Job) (s1 : Int) : Option ((Int) ⊕ Bool) := if (decide (s1 < (p_l.length : Int))) then (idx p_l s1).bind fun x1 => ((mend_may x1).bind fun x2 => (if (!x2) then some true else chk ((0 : Int) ≤ s1 ∧ s1 ≤ (p_l.length : Int)) ((mend_of x1).bind fun x3 => (slices_ContainsFunc_api_Job_api_Job__mend_spot_is ((p_l.take s1.toNat)) x3).bind fun x4 => some x4)).bind fun c1 => (if c1 then some true else (if (decide (s1 > 0)) then chk (InI64 (s1 - 1)) ((idx p_l ((s1 - 1))).bind fun x5 => (mend_against x5 x1).bind fun x6 => some ((decide (x6 ≥ 0)))) else some false).bind fun c2 => some c2).bind fun c3 => some c3).bind fun v2 => if v2 then out (some false) else chk (InI64 (s1 + 1)) (some (.inl ((s1 + 1)))) else out (mend_Right_J1 (()))

noncomputable def mend_Right_L1 (p_l : List api_Job) (s1 : Int) : Option Bool := loop (mend_Right_B1 p_l) s1

/-- mend.Right -/
noncomputable def mend_Right (p_l : List api_Job) : Option Bool := mend_Right_L1 p_l (0)

/-- catacomblaw28.head -/
noncomputable def law28_head : Option Bool := (law28_job (2) (1) (0) (5)).bind fun x1 => (law28_job (1) (4) (3) (4)).bind fun x2 => (law28_job (1) (4) (3) (2)).bind fun x3 => (law28_job (0) (2) (2) (2)).bind fun x4 => (mend_Order ([x1, x2, x3, x4])).bind fun x5 => (mend_Step x5 (6)).bind fun x6 => (law28_job (1) (4) (3) (2)).bind fun x7 => (mend_Renew ([x7]) x5).bind fun x8 => ((law28_job (1) (4) (3) (4)).bind fun x9 => (law28_job (2) (1) (0) (5)).bind fun x10 => (ref27_SameJobs x5 ([x9, x10])).bind fun x11 => (if x11 then (law28_job (2) (1) (0) (3)).bind fun x12 => (ref27_SameJobs x6.1 ([x12])).bind fun x13 => some x13 else some false).bind fun c1 => (if c1 then (law28_job (1) (4) (3) (0)).bind fun x14 => (ref27_SameJobs x6.2 ([x14])).bind fun x15 => some x15 else some false).bind fun c2 => (if c2 then (mend_Steps x5 (4)).bind fun x16 => some ((x16 == 3)) else some false).bind fun c3 => (if c3 then (mend_Steps x5 (0)).bind fun x17 => some ((x17 == (-1))) else some false).bind fun c4 => (if c4 then (mend_Steps ([]) (0)).bind fun x18 => some ((x18 == 0)) else some false).bind fun c5 => (if c5 then (law28_job (1) (4) (3) (2)).bind fun x19 => (law28_job (2) (1) (0) (5)).bind fun x20 => (ref27_SameJobs x8 ([x19, x20])).bind fun x21 => some x21 else some false).bind fun c6 => (if c6 then (mend_Right x5).bind fun x22 => some x22 else some false).bind fun c7 => (if c7 then (law28_job (2) (1) (0) (5)).bind fun x23 => (law28_job (1) (4) (3) (4)).bind fun x24 => (mend_Right ([x23, x24])).bind fun x25 => some ((!x25)) else some false).bind fun c8 => some c8).bind fun v1 => some v1

/-- catacombref28.Few -/
noncomputable def ref28_Few (p_l : List api_Job) : Option ((List api_Job)) := chk ((0 : Int) ≤ (min ((p_l.length : Int)) (40)) ∧ (min ((p_l.length : Int)) (40)) ≤ (p_l.length : Int)) (chk (((([] : List api_Job)).length + ((p_l.take ((min ((p_l.length : Int)) (40))).toNat)).length) * 48 ≤ 140737488355328) (some ((([] : List api_Job) ++ (p_l.take ((min ((p_l.length : Int)) (40))).toNat)))))

/-- catacombref28.May -/
noncomputable def ref28_May (p_j : api_Job) : Option Bool := ((if (decide (p_j.Id ≥ 0)) then some ((decide (p_j.Id ≤ 199))) else some false).bind fun c1 => (if c1 then some ((decide (p_j.Ver ≥ 0))) else some false).bind fun c2 => (if c2 then some ((decide (p_j.Ver ≤ 1099511627776))) else some false).bind fun c3 => (if c3 then some ((decide (p_j.From ≥ 0))) else some false).bind fun c4 => (if c4 then some ((decide (p_j.From ≤ 1099511627776))) else some false).bind fun c5 => (if c5 then some ((decide (p_j.To ≥ 0))) else some false).bind fun c6 => (if c6 then some ((decide (p_j.To ≤ 1099511627776))) else some false).bind fun c7 => (if c7 then some ((p_j.From != p_j.To)) else some false).bind fun c8 => (if c8 then some ((decide (p_j.Have ≥ 1))) else some false).bind fun c9 => (if c9 then some ((decide (p_j.Have ≤ 5))) else some false).bind fun c10 => (if c10 then some ((decide (p_j.Left ≥ 1))) else some false).bind fun c11 => (if c11 then some ((decide (p_j.Left ≤ 65))) else some false).bind fun c12 => some c12).bind fun v1 => some v1

noncomputable def ref28_alike_J1 (_v1 : Unit) : Option Int := some ((-1))

noncomputable def ref28_alike_B1 (p_l : List api_Job) (p_j : api_Job) (s1 : Int) : Option ((Int) ⊕ Int) := if (decide (s1 < (p_l.length : Int))) then ((idx p_l s1).bind fun x1 => (if (x1.Id == p_j.Id) then (idx p_l s1).bind fun x2 => some ((x2.To == p_j.To)) else some false).bind fun c1 => some c1).bind fun v2 => if v2 then out (some s1) else chk (InI64 (s1 + 1)) (some (.inl ((s1 + 1)))) else out (ref28_alike_J1 (()))

noncomputable def ref28_alike_L1 (p_l : List api_Job) (p_j : api_Job) (s1 : Int) : Option Int := loop (ref28_alike_B1 p_l p_j) s1

/-- catacombref28.alike -/
noncomputable def ref28_alike (p_l : List api_Job) (p_j : api_Job) : Option Int := ref28_alike_L1 p_l p_j (0)

/-- catacombref28.Ahead -/
noncomputable def ref28_Ahead (p_a : api_Job) (p_b : api_Job) : Option Bool := if (p_a.Have != p_b.Have) then some ((decide (p_a.Have < p_b.Have))) else if (p_a.Id != p_b.Id) then some ((decide (p_a.Id < p_b.Id))) else some ((decide (p_a.To < p_b.To)))

noncomputable def ref28_Order_B2 (s1 : (List api_Job) × Int) (p_l : List api_Job) (s2 : Int) : Option ((Int) ⊕ Int) := ((if (decide (s2 < (s1.1.length : Int))) then (idx s1.1 s2).bind fun x5 => (idx p_l s1.2).bind fun x6 => (ref28_Ahead x5 x6).bind fun x7 => some x7 else some false).bind fun c2 => some c2).bind fun v5 => if v5 then chk (InI64 (s2 + 1)) (some (.inl ((s2 + 1)))) else out (some s2)

noncomputable def ref28_Order_L2 (s1 : (List api_Job) × Int) (p_l : List api_Job) (s2 : Int) : Option Int := loop (ref28_Order_B2 s1 p_l) s2

noncomputable def ref28_Order_B1 (p_l : List api_Job) (s1 : (List api_Job) × Int) : Option (((List api_Job) × Int) ⊕ ((List api_Job))) := if (decide (s1.2 < (p_l.length : Int))) then (((idx p_l s1.2).bind fun x1 => (ref28_May x1).bind fun x2 => (if (!x2) then some true else (idx p_l s1.2).bind fun x3 => (ref28_alike s1.1 x3).bind fun x4 => some ((decide (x4 ≥ 0)))).bind fun c1 => some c1).bind fun v3 => if v3 then some s1.1 else (ref28_Order_L2 s1 p_l (0)).bind fun v4 => chk ((0 : Int) ≤ v4 ∧ v4 ≤ (s1.1.length : Int)) (chk (((([] : List api_Job)).length + ((s1.1.take v4.toNat)).length) * 48 ≤ 140737488355328) ((idx p_l s1.2).bind fun x8 => chk ((((([] : List api_Job) ++ (s1.1.take v4.toNat))).length + ([x8]).length) * 48 ≤ 140737488355328) (chk ((0 : Int) ≤ v4 ∧ v4 ≤ (s1.1.length : Int)) (chk (((((([] : List api_Job) ++ (s1.1.take v4.toNat)) ++ [x8])).length + ((s1.1.drop v4.toNat)).length) * 48 ≤ 140737488355328) (some ((((([] : List api_Job) ++ (s1.1.take v4.toNat)) ++ [x8]) ++ (s1.1.drop v4.toNat))))))))).bind fun v2 => chk (InI64 (s1.2 + 1)) (some (.inl ((v2, (s1.2 + 1))))) else out (some s1.1)

noncomputable def ref28_Order_L1 (p_l : List api_Job) (s1 : (List api_Job) × Int) : Option ((List api_Job)) := loop (ref28_Order_B1 p_l) s1

/-- catacombref28.Order -/
noncomputable def ref28_Order (p_l : List api_Job) : Option ((List api_Job)) := (ref28_Order_L1 p_l ((([] : List api_Job), 0))).bind fun v1 => some v1

noncomputable def ref28_Step_B1 (p_l : List api_Job) (s1 : Int × Int × (List api_Job) × (List api_Job)) : Option ((Int × Int × (List api_Job) × (List api_Job)) ⊕ ((List api_Job) × (List api_Job))) := if (decide (s1.2.1 < (p_l.length : Int))) then ((idx p_l s1.2.1).bind fun x1 => chk (InI64 (s1.1 - (min s1.1 x1.Left))) (chk (InI64 (x1.Left - (min s1.1 x1.Left))) (if (decide ((x1.Left - (min s1.1 x1.Left)) > 0)) then chk ((s1.2.2.1.length + ([(⟨x1.Id, x1.Ver, x1.From, x1.To, x1.Have, (x1.Left - (min s1.1 x1.Left))⟩ : api_Job)]).length) * 48 ≤ 140737488355328) (some (((s1.1 - (min s1.1 x1.Left)), (s1.2.2.1 ++ [(⟨x1.Id, x1.Ver, x1.From, x1.To, x1.Have, (x1.Left - (min s1.1 x1.Left))⟩ : api_Job)]), s1.2.2.2))) else chk ((s1.2.2.2.length + ([(⟨x1.Id, x1.Ver, x1.From, x1.To, x1.Have, (x1.Left - (min s1.1 x1.Left))⟩ : api_Job)]).length) * 48 ≤ 140737488355328) (some (((s1.1 - (min s1.1 x1.Left)), s1.2.2.1, (s1.2.2.2 ++ [(⟨x1.Id, x1.Ver, x1.From, x1.To, x1.Have, (x1.Left - (min s1.1 x1.Left))⟩ : api_Job)]))))))).bind fun v2 => chk (InI64 (s1.2.1 + 1)) (some (.inl ((v2.1, (s1.2.1 + 1), v2.2.1, v2.2.2)))) else out (some ((s1.2.2.1, s1.2.2.2)))

noncomputable def ref28_Step_L1 (p_l : List api_Job) (s1 : Int × Int × (List api_Job) × (List api_Job)) : Option ((List api_Job) × (List api_Job)) := loop (ref28_Step_B1 p_l) s1

/-- catacombref28.Step -/
noncomputable def ref28_Step (p_l : List api_Job) (p_budget : Int) : Option ((List api_Job) × (List api_Job)) := (ref28_Step_L1 p_l (((max p_budget (0)), 0, ([] : List api_Job), ([] : List api_Job)))).bind fun v1 => some ((v1.1, v1.2))

noncomputable def ref28_Right_J1 (_v1 : Unit) : Option Bool := some true

noncomputable def ref28_Right_B1 (p_l : List api_Job) (s1 : Int) : Option ((Int) ⊕ Bool) := if (decide (s1 < (p_l.length : Int))) then ((idx p_l s1).bind fun x1 => (ref28_May x1).bind fun x2 => (if (!x2) then some true else chk ((0 : Int) ≤ s1 ∧ s1 ≤ (p_l.length : Int)) ((idx p_l s1).bind fun x3 => (ref28_alike ((p_l.take s1.toNat)) x3).bind fun x4 => some ((decide (x4 ≥ 0))))).bind fun c1 => (if c1 then some true else (if (decide (s1 > 0)) then chk (InI64 (s1 - 1)) ((idx p_l ((s1 - 1))).bind fun x5 => (idx p_l s1).bind fun x6 => (ref28_Ahead x5 x6).bind fun x7 => some ((!x7))) else some false).bind fun c2 => some c2).bind fun c3 => some c3).bind fun v2 => if v2 then out (some false) else chk (InI64 (s1 + 1)) (some (.inl ((s1 + 1)))) else out (ref28_Right_J1 (()))

noncomputable def ref28_Right_L1 (p_l : List api_Job) (s1 : Int) : Option Bool := loop (ref28_Right_B1 p_l) s1

/-- catacombref28.Right -/
noncomputable def ref28_Right (p_l : List api_Job) : Option Bool := ref28_Right_L1 p_l (0)

noncomputable def ref28_Renew_B1 (p_plan : List api_Job) (p_l : List api_Job) (s1 : Int × (List api_Job)) : Option ((Int × (List api_Job)) ⊕ ((List api_Job))) := if (decide (s1.1 < (p_plan.length : Int))) then (idx p_plan s1.1).bind fun x1 => (ref28_alike p_l x1).bind fun x2 => (((if (decide (x2 ≥ 0)) then (idx p_l x2).bind fun x3 => some ((x3.Ver == x1.Ver)) else some false).bind fun c1 => some c1).bind fun v3 => if v3 then (idx p_l x2).bind fun x4 => some ((min x1.Left x4.Left)) else some x1.Left).bind fun v2 => chk ((s1.2.length + ([(⟨x1.Id, x1.Ver, x1.From, x1.To, x1.Have, v2⟩ : api_Job)]).length) * 48 ≤ 140737488355328) (chk (InI64 (s1.1 + 1)) (some (.inl (((s1.1 + 1), (s1.2 ++ [(⟨x1.Id, x1.Ver, x1.From, x1.To, x1.Have, v2⟩ : api_Job)])))))) else out (some s1.2)

noncomputable def ref28_Renew_L1 (p_plan : List api_Job) (p_l : List api_Job) (s1 : Int × (List api_Job)) : Option ((List api_Job)) := loop (ref28_Renew_B1 p_plan p_l) s1

/-- catacombref28.Renew -/
noncomputable def ref28_Renew (p_l : List api_Job) (p_plan : List api_Job) : Option ((List api_Job)) := (ref28_Renew_L1 p_plan p_l ((0, ([] : List api_Job)))).bind fun v1 => some v1

noncomputable def ref28_Steps_B1 (p_budget : Int) (s1 : (List api_Job) × Int) : Option (((List api_Job) × Int) ⊕ Int) := if (decide ((s1.1.length : Int) > 0)) then (ref28_Step s1.1 p_budget).bind fun x1 => chk (InI64 (s1.2 + 1)) (some (.inl ((x1.1, (s1.2 + 1))))) else out (some s1.2)

noncomputable def ref28_Steps_L1 (p_budget : Int) (s1 : (List api_Job) × Int) : Option Int := loop (ref28_Steps_B1 p_budget) s1

/-- catacombref28.Steps -/
noncomputable def ref28_Steps (p_l : List api_Job) (p_budget : Int) : Option Int := if ((p_l.length : Int) == 0) then some (0) else if (decide (p_budget < 1)) then some ((-1)) else (ref28_Steps_L1 p_budget ((p_l, 0))).bind fun v1 => some v1

/-- catacomblaw28.MendTells -/
noncomputable def law28_MendTells (p_x : List api_Job) (p_y : List api_Job) (p_budget : Int) : Option Bool := (law28_head).bind fun x1 => (ref28_Few p_x).bind fun x2 => (ref28_Few p_y).bind fun x3 => (ref28_Order x2).bind fun x4 => (ref28_Order x3).bind fun x5 => (mend_Step x4 p_budget).bind fun x6 => (ref28_Step x4 p_budget).bind fun x7 => ((if x1 then (mend_Right x2).bind fun x8 => (ref28_Right x2).bind fun x9 => some ((x8 == x9)) else some false).bind fun c1 => (if c1 then (mend_Order x2).bind fun x10 => (ref27_SameJobs x10 x4).bind fun x11 => some x11 else some false).bind fun c2 => (if c2 then (mend_Renew x4 x5).bind fun x12 => (ref28_Renew x4 x5).bind fun x13 => (ref27_SameJobs x12 x13).bind fun x14 => some x14 else some false).bind fun c3 => (if c3 then (ref27_SameJobs x6.1 x7.1).bind fun x15 => some x15 else some false).bind fun c4 => (if c4 then (ref27_SameJobs x6.2 x7.2).bind fun x16 => some x16 else some false).bind fun c5 => (if c5 then (mend_Steps x4 p_budget).bind fun x17 => (ref28_Steps x4 p_budget).bind fun x18 => some ((x17 == x18)) else some false).bind fun c6 => some c6).bind fun v1 => some v1

noncomputable def law28_MendQueue_B1 (x3 : (List api_Job)) (s1 : Int × (List api_Job)) : Option ((Int × (List api_Job)) ⊕ ((List api_Job))) := if (decide (s1.1 ≥ 0)) then (idx x3 s1.1).bind fun x4 => chk ((s1.2.length + ([x4]).length) * 48 ≤ 140737488355328) (chk (InI64 (s1.1 - 1)) (some (.inl (((s1.1 - 1), (s1.2 ++ [x4])))))) else out (some s1.2)

noncomputable def law28_MendQueue_L1 (x3 : (List api_Job)) (s1 : Int × (List api_Job)) : Option ((List api_Job)) := loop (law28_MendQueue_B1 x3) s1

noncomputable def law28_MendQueue_J1 (x1 : Bool) (x3 : (List api_Job)) (v1 : (List api_Job)) (x5 : (List api_Job) × (List api_Job)) (p_x : List api_Job) (_v2 : Unit) : Option Bool := ((if x1 then (mend_Right x3).bind fun x7 => some x7 else some false).bind fun c1 => (if c1 then (mend_Order x3).bind fun x8 => (ref27_SameJobs x8 x3).bind fun x9 => some x9 else some false).bind fun c2 => (if c2 then (mend_Order v1).bind fun x10 => (ref27_SameJobs x10 x3).bind fun x11 => some x11 else some false).bind fun c3 => (if c3 then (mend_Right x5.1).bind fun x12 => some x12 else some false).bind fun c4 => (if c4 then chk (InI64 ((x5.1.length : Int) + (x5.2.length : Int))) (some ((((x5.1.length : Int) + (x5.2.length : Int)) == (x3.length : Int)))) else some false).bind fun c5 => (if c5 then some ((decide ((x3.length : Int) ≤ (p_x.length : Int)))) else some false).bind fun c6 => some c6).bind fun v3 => some v3

noncomputable def law28_MendQueue_B2 (x5 : (List api_Job) × (List api_Job)) (x1 : Bool) (x3 : (List api_Job)) (v1 : (List api_Job)) (p_x : List api_Job) (s2 : Int) : Option ((Int) ⊕ Bool) := if (decide (s2 < (x5.2.length : Int))) then (idx x5.2 s2).bind fun x6 => if (x6.Left != 0) then out (some false) else chk (InI64 (s2 + 1)) (some (.inl ((s2 + 1)))) else out (law28_MendQueue_J1 x1 x3 v1 x5 p_x (()))

noncomputable def law28_MendQueue_L2 (x5 : (List api_Job) × (List api_Job)) (x1 : Bool) (x3 : (List api_Job)) (v1 : (List api_Job)) (p_x : List api_Job) (s2 : Int) : Option Bool := loop (law28_MendQueue_B2 x5 x1 x3 v1 p_x) s2

/-- catacomblaw28.MendQueue -/
noncomputable def law28_MendQueue (p_x : List api_Job) (p_budget : Int) : Option Bool := (law28_head).bind fun x1 => (ref28_Few p_x).bind fun x2 => (mend_Order x2).bind fun x3 => (chk (InI64 ((x3.length : Int) - 1)) (law28_MendQueue_L1 x3 ((((x3.length : Int) - 1), ([] : List api_Job))))).bind fun v1 => (mend_Step x3 p_budget).bind fun x5 => law28_MendQueue_L2 x5 x1 x3 v1 p_x (0)

noncomputable def ref28_Total_B1 (p_l : List api_Job) (s1 : Int × Int) : Option ((Int × Int) ⊕ Int) := if (decide (s1.2 < (p_l.length : Int))) then (idx p_l s1.2).bind fun x1 => chk (InI64 (s1.1 + x1.Left)) (chk (InI64 (s1.2 + 1)) (some (.inl (((s1.1 + x1.Left), (s1.2 + 1)))))) else out (some s1.1)

noncomputable def ref28_Total_L1 (p_l : List api_Job) (s1 : Int × Int) : Option Int := loop (ref28_Total_B1 p_l) s1

/-- catacombref28.Total -/
noncomputable def ref28_Total (p_l : List api_Job) : Option Int := (ref28_Total_L1 p_l ((0, 0))).bind fun v1 => some v1

noncomputable def law28_MendBudget_J1 (x1 : Bool) (_v2 : Unit) : Option Bool := some x1

noncomputable def law28_MendBudget_J2 (s1 : Int) (_v3 : Unit) : Option ((Int) ⊕ Bool) := chk (InI64 (s1 + 1)) (some (.inl ((s1 + 1))))

noncomputable def law28_MendBudget_B1 (x3 : (List api_Job)) (x4 : (List api_Job) × (List api_Job)) (x1 : Bool) (s1 : Int) : Option ((Int) ⊕ Bool) := if (decide (s1 < (x3.length : Int))) then (idx x3 s1).bind fun x7 => if (decide (s1 < (x4.2.length : Int))) then (idx x4.2 s1).bind fun x8 => if (!(x8.Id == x7.Id && (x8.Ver == x7.Ver && (x8.From == x7.From && (x8.To == x7.To && (x8.Have == x7.Have && (x8.Left == 0 && true))))))) then out (some false) else law28_MendBudget_J2 s1 (()) else chk (InI64 (s1 - (x4.2.length : Int))) ((idx x4.1 ((s1 - (x4.2.length : Int)))).bind fun x9 => ((if (!(x9.Id == x7.Id && (x9.Ver == x7.Ver && (x9.From == x7.From && (x9.To == x7.To && (x9.Have == x7.Have && (x7.Left == x7.Left && true))))))) then some true else some ((decide (x9.Left < 1)))).bind fun c2 => (if c2 then some true else some ((decide (x9.Left > x7.Left)))).bind fun c3 => (if c3 then some true else (if (decide (s1 > (x4.2.length : Int))) then some ((x9.Left != x7.Left)) else some false).bind fun c4 => some c4).bind fun c5 => some c5).bind fun v4 => if v4 then out (some false) else law28_MendBudget_J2 s1 (())) else out (law28_MendBudget_J1 x1 (()))

noncomputable def law28_MendBudget_L1 (x3 : (List api_Job)) (x4 : (List api_Job) × (List api_Job)) (x1 : Bool) (s1 : Int) : Option Bool := loop (law28_MendBudget_B1 x3 x4 x1) s1

/-- catacomblaw28.MendBudget -/
noncomputable def law28_MendBudget (p_x : List api_Job) (p_budget : Int) : Option Bool := (law28_head).bind fun x1 => (ref28_Few p_x).bind fun x2 => (ref28_Order x2).bind fun x3 => (mend_Step x3 p_budget).bind fun x4 => (ref28_Total x3).bind fun x5 => (chk (InI64 ((x4.1.length : Int) + (x4.2.length : Int))) ((if (((x4.1.length : Int) + (x4.2.length : Int)) != (x3.length : Int)) then some true else (ref28_Total x4.1).bind fun x6 => chk (InI64 (x5 - x6)) (some (((x5 - x6) != (min ((max p_budget (0))) x5))))).bind fun c1 => some c1)).bind fun v1 => if v1 then some false else law28_MendBudget_L1 x3 x4 x1 (0)

noncomputable def law28_MendEnds_J1 (x1 : Bool) (x3 : (List api_Job)) (p_by : UInt8) (v2 : (List api_Job)) : Option Bool := ((if x1 then some (((v2.length : Int) == 0)) else some false).bind fun c5 => (if c5 then (if ((x3.length : Int) == 0) then some true else chk (InI64 (0 - (1 + (p_by.toNat : Int)))) ((mend_Steps x3 ((0 - (1 + (p_by.toNat : Int))))).bind fun x8 => some ((x8 == (-1))))).bind fun c6 => some c6 else some false).bind fun c7 => some c7).bind fun v3 => some v3

noncomputable def law28_MendEnds_B1 (x4 : Int) (p_by : UInt8) (x1 : Bool) (x3 : (List api_Job)) (s1 : (List api_Job) × Int) : Option (((List api_Job) × Int) ⊕ Bool) := if (decide (s1.2 < x4)) then if ((s1.1.length : Int) == 0) then out (some false) else (mend_Step s1.1 ((1 + (p_by.toNat : Int)))).bind fun x6 => (ref28_Right x6.1).bind fun x7 => if (!x7) then out (some false) else chk (InI64 (s1.2 + 1)) (some (.inl ((x6.1, (s1.2 + 1))))) else out (law28_MendEnds_J1 x1 x3 p_by s1.1)

noncomputable def law28_MendEnds_L1 (x4 : Int) (p_by : UInt8) (x1 : Bool) (x3 : (List api_Job)) (s1 : (List api_Job) × Int) : Option Bool := loop (law28_MendEnds_B1 x4 p_by x1 x3) s1

/-- catacomblaw28.MendEnds -/
noncomputable def law28_MendEnds (p_x : List api_Job) (p_by : UInt8) : Option Bool := (law28_head).bind fun x1 => (ref28_Few p_x).bind fun x2 => (ref28_Order x2).bind fun x3 => chk (InI64 (1 + (p_by.toNat : Int))) ((mend_Steps x3 ((1 + (p_by.toNat : Int)))).bind fun x4 => (ref28_Total x3).bind fun x5 => ((if (decide (x4 < 0)) then some true else some ((decide (x4 > x5)))).bind fun c1 => (if c1 then some true else chk (InI64 (x4 - 1)) (chk (InI64 ((x4 - 1) * (1 + (p_by.toNat : Int)))) ((if (decide (((x4 - 1) * (1 + (p_by.toNat : Int))) ≥ x5)) then some ((decide (x4 > 0))) else some false).bind fun c2 => some c2))).bind fun c3 => (if c3 then some true else chk (InI64 (x4 * (1 + (p_by.toNat : Int)))) (some ((decide ((x4 * (1 + (p_by.toNat : Int))) < x5))))).bind fun c4 => some c4).bind fun v1 => if v1 then some false else law28_MendEnds_L1 x4 p_by x1 x3 ((x3, 0)))

/-- catacomblaw28.MendTwice -/
noncomputable def law28_MendTwice (p_x : List api_Job) (p_a : Int) (p_b : Int) : Option Bool := (law28_head).bind fun x1 => (ref28_Few p_x).bind fun x2 => (ref28_Order x2).bind fun x3 => (mend_Step x3 ((IntKind.i64.wrap p_a))).bind fun x4 => (ref28_Right x4.1).bind fun x5 => if (!x5) then some false else (mend_Step x4.1 ((IntKind.i64.wrap p_b))).bind fun x6 => chk (InI64 ((IntKind.i64.wrap p_a) + (IntKind.i64.wrap p_b))) ((mend_Step x3 (((IntKind.i64.wrap p_a) + (IntKind.i64.wrap p_b)))).bind fun x7 => chk (((([] : List api_Job)).length + x4.2.length) * 48 ≤ 140737488355328) (chk ((((([] : List api_Job) ++ x4.2)).length + x6.2.length) * 48 ≤ 140737488355328) (((if x1 then (ref27_SameJobs x6.1 x7.1).bind fun x8 => some x8 else some false).bind fun c1 => (if c1 then (ref27_SameJobs (((([] : List api_Job) ++ x4.2) ++ x6.2)) x7.2).bind fun x9 => some x9 else some false).bind fun c2 => some c2).bind fun v1 => some v1)))

noncomputable def law28_MendRenews_J1 (x3 : (List api_Job)) (p_budget : Int) (x1 : Bool) (x5 : (List api_Job)) (_v2 : Unit) : Option Bool := (mend_Step x3 ((IntKind.i64.wrap p_budget))).bind fun x12 => (mend_Renew x12.1 x3).bind fun x13 => ((if ((x13.length : Int) != (x3.length : Int)) then some true else some ((decide ((x12.1.length : Int) > (x3.length : Int))))).bind fun c2 => some c2).bind fun v3 => if v3 then some false else ((if x1 then (mend_Renew x3 x3).bind fun x14 => (ref27_SameJobs x14 x3).bind fun x15 => some x15 else some false).bind fun c3 => (if c3 then (mend_Renew ([]) x5).bind fun x16 => (ref27_SameJobs x16 x5).bind fun x17 => some x17 else some false).bind fun c4 => (if c4 then chk (InI64 ((x3.length : Int) - (x12.1.length : Int))) (chk ((0 : Int) ≤ ((x3.length : Int) - (x12.1.length : Int)) ∧ ((x3.length : Int) - (x12.1.length : Int)) ≤ (x13.length : Int)) ((ref27_SameJobs ((x13.drop (((x3.length : Int) - (x12.1.length : Int))).toNat)) x12.1).bind fun x18 => some x18)) else some false).bind fun c5 => some c5).bind fun v4 => some v4

noncomputable def law28_MendRenews_B1 (x6 : (List api_Job)) (x5 : (List api_Job)) (x3 : (List api_Job)) (p_budget : Int) (x1 : Bool) (s1 : Int) : Option ((Int) ⊕ Bool) := if (decide (s1 < (x6.length : Int))) then (idx x6 s1).bind fun x8 => (idx x5 s1).bind fun x9 => if (decide (x8.Left > x9.Left)) then out (some false) else (idx x5 s1).bind fun x10 => (idx x5 s1).bind fun x11 => if (!(x8.Id == x11.Id && (x8.Ver == x11.Ver && (x8.From == x11.From && (x8.To == x11.To && (x8.Have == x11.Have && (x10.Left == x11.Left && true))))))) then out (some false) else chk (InI64 (s1 + 1)) (some (.inl ((s1 + 1)))) else out (law28_MendRenews_J1 x3 p_budget x1 x5 (()))

noncomputable def law28_MendRenews_L1 (x6 : (List api_Job)) (x5 : (List api_Job)) (x3 : (List api_Job)) (p_budget : Int) (x1 : Bool) (s1 : Int) : Option Bool := loop (law28_MendRenews_B1 x6 x5 x3 p_budget x1) s1

/-- catacomblaw28.MendRenews -/
noncomputable def law28_MendRenews (p_x : List api_Job) (p_y : List api_Job) (p_budget : Int) : Option Bool := (law28_head).bind fun x1 => (ref28_Few p_x).bind fun x2 => (ref28_Order x2).bind fun x3 => (ref28_Few p_y).bind fun x4 => (ref28_Order x4).bind fun x5 => (mend_Renew x3 x5).bind fun x6 => ((if ((x6.length : Int) != (x5.length : Int)) then some true else (mend_Right x6).bind fun x7 => some ((!x7))).bind fun c1 => some c1).bind fun v1 => if v1 then some false else law28_MendRenews_L1 x6 x5 x3 p_budget x1 (0)
end Go.Proofs
