/- The plain programs with a bound on their rounds: what these say the others say, too. No condition. -/
import Derived.Test.YthkdflbnmbnbaaaGreatXShotRightSp
import Derived.Test.YthkdflbnmbnbaaaGreatXShotRightCatP6
namespace Go.Proofs
noncomputable section
set_option linter.all false
open Go Go.Cat
set_option maxRecDepth 100000
def slicesN10 (_n:Nat) (p_x:List api_Node) (p_target:Int) (s1:Int×Int):Option ((Int×Int)⊕Int):=if (decide (s1.1 < s1.2)) then chk (InI64 (s1.1+s1.2)) ((idx p_x (IntKind.i64.wrap (shrK .u64 (IntKind.u64.wrap (s1.1+s1.2)) 1))).bind fun x1=>(treeN15 x1 p_target).bind fun x2=>if (decide (x2 < 0)) then chk (InI64 ((IntKind.i64.wrap (shrK .u64 (IntKind.u64.wrap (s1.1+s1.2)) 1))+1)) (some (.inl (((IntKind.i64.wrap (shrK .u64 (IntKind.u64.wrap (s1.1+s1.2)) 1))+1),s1.2))) else some (.inl (s1.1,(IntKind.i64.wrap (shrK .u64 (IntKind.u64.wrap (s1.1+s1.2)) 1))))) else out (some s1.1)
theorem le_slicesN5 n p_x p_target s1:Le0 (slicesN10 n p_x p_target s1) (slicesN9 p_x p_target s1):=by
 unfold slicesN10 slicesN9
 with_reducible repeat' first | refine B0 ?_ fun _=>?_ | apply I0 | apply K0 | apply O0 | exact R0
def slicesN12 (n:Nat) (p_x:List api_Node) (p_target:Int) (s1:Int×Int):Option Int:=loopN (slicesN10 n p_x p_target) n s1
theorem le_slicesN6 n p_x p_target s1:Le0 (slicesN12 n p_x p_target s1) (slicesN11 p_x p_target s1):=Le0.loop (fun s=>le_slicesN5 n p_x p_target s) n s1
def slicesN8 (n:Nat) (p_x:List api_Node) (p_target:Int):Option (Int×Bool):=(slicesN12 n p_x p_target (0,(p_x.length:Int))).bind fun v1=>((if (decide (v1 < (p_x.length:Int))) then (idx p_x v1).bind fun x3=>(treeN15 x3 p_target).bind fun x4=>some (x4 == 0) else some false).bind fun c1=>some c1).bind fun v2=>some (v1,v2)
theorem le_slicesN4 n p_x p_target:Le0 (slicesN8 n p_x p_target) (slicesN7 p_x p_target):=by
 unfold slicesN8 slicesN7
 with_reducible repeat' first | apply le_slicesN6 | refine B0 ?_ fun _=>?_ | apply I0 | apply K0 | apply O0 | exact R0
def treeN14 (n:Nat) (self:tree_grove) (p_ino:Int):Option ((Int×Bool)×tree_grove):=(slicesN8 n self.Tree.Nodes p_ino).bind fun x1=>some ((x1.1,x1.2),self)
theorem le_treeN9 n self p_ino:Le0 (treeN14 n self p_ino) (treeN13 self p_ino):=by
 unfold treeN14 treeN13
 with_reducible repeat' first | apply le_slicesN4 | refine B0 ?_ fun _=>?_ | apply I0 | apply K0 | apply O0 | exact R0
def treeN29 (n:Nat) (self:tree_grove) (p_ino:Int):Option ((api_Node×Bool)×tree_grove):=(treeN14 n self p_ino).bind fun x1=>if (!x1.1.2) then some (((⟨0,0,0,[],[],0⟩:api_Node),false),x1.2) else (idx x1.2.Tree.Nodes x1.1.1).bind fun x2=>some ((x2,true),x1.2)
theorem le_treeN16 n self p_ino:Le0 (treeN29 n self p_ino) (treeN28 self p_ino):=by
 unfold treeN29 treeN28
 with_reducible repeat' first | apply le_treeN9 | refine B0 ?_ fun _=>?_ | apply I0 | apply K0 | apply O0 | exact R0
def tree_Get' (n:Nat) (p_t:api_Tree) (p_ino:Int):Option (api_Node×Bool):=(treeN29 n (⟨p_t⟩:tree_grove) p_ino).bind fun x1=>some (x1.1.1,x1.1.2)
theorem le_tree_Get n p_t p_ino:Le0 (tree_Get' n p_t p_ino) (tree_Get p_t p_ino):=by
 unfold tree_Get' tree_Get
 with_reducible repeat' first | apply le_treeN16 | refine B0 ?_ fun _=>?_ | apply I0 | apply K0 | apply O0 | exact R0
def slicesN16 (_n:Nat) (p_s:List api_Shot):Option (List api_Shot):=chk (p_s.length * 24≤140737488355328) (some p_s)
theorem eq_slicesN2 (p_s:List api_Shot) (h:p_s.length * 24≤140737488355328):slicesN15 p_s=some p_s:=by
 unfold slicesN15
 refine Le0.clone fun b hb=>?_
 cases b with
 | true=>rw [hb rfl]; rfl
 | false =>
  rw [if_neg (by decide)]
  show chk _ _=_
  unfold chk
  rw [if_pos (by simpa using h)]; rfl
theorem le_slicesN8 n p_s:Le0 (slicesN16 n p_s) (slicesN15 p_s):=fun r hr=>by
 obtain ⟨h1,h2⟩:=chk_some hr
 cases h2
 exact eq_slicesN2 _ h1
def shot_Take' (n:Nat) (p_s:api_Shots) (p_ino:Int):Option (api_Shots×Int×Int):=(tree_Get' n p_s.Now p_ino).bind fun x1=>if (!x1.2) then some (p_s,0,70) else if (x1.1.Kind != 2) then some (p_s,0,73) else ((if (decide ((p_s.Taken.length:Int)≥16)) then some true else some (decide (p_s.Next≥1099511627776))).bind fun c1=>some c1).bind fun v1=>if v1 then some (p_s,0,76) else (slicesN16 n p_s.Taken).bind fun x2=>chk ((x2.length+([(⟨p_s.Next,p_ino,p_s.Tick⟩:api_Shot)]).length) * 24≤140737488355328) (chk (InI64 (p_s.Next+1)) (some ((⟨p_s.Now,p_s.Tick,p_s.Since,p_s.Pasts,(x2++[(⟨p_s.Next,p_ino,p_s.Tick⟩:api_Shot)]),(p_s.Next+1)⟩:api_Shots),p_s.Next,0)))
theorem le_shotN12 n p_s p_ino:Le0 (shot_Take' n p_s p_ino) (shot_Take p_s p_ino):=by
 unfold shot_Take' shot_Take
 with_reducible repeat' first | apply le_tree_Get | apply le_slicesN8 | refine B0 ?_ fun _=>?_ | apply I0 | apply K0 | apply O0 | exact R0
def ref07N37 (_n:Nat) (p_t:api_Tree) (p_ino:Int) (s1:Int):Option ((Int)⊕Int):=if (decide (s1 < (p_t.Nodes.length:Int))) then (idx p_t.Nodes s1).bind fun x1=>if (x1.Ino == p_ino) then out (some s1) else chk (InI64 (s1+1)) (some (.inl (s1+1))) else out (ref07N38 ())
theorem le_ref07N16 n p_t p_ino s1:Le0 (ref07N37 n p_t p_ino s1) (ref07N36 p_t p_ino s1):=by
 unfold ref07N37 ref07N36
 with_reducible repeat' first | refine B0 ?_ fun _=>?_ | apply I0 | apply K0 | apply O0 | exact R0
def ref07N40 (n:Nat) (p_t:api_Tree) (p_ino:Int) (s1:Int):Option Int:=loopN (ref07N37 n p_t p_ino) n s1
theorem le_ref07N17 n p_t p_ino s1:Le0 (ref07N40 n p_t p_ino s1) (ref07N39 p_t p_ino s1):=Le0.loop (fun s=>le_ref07N16 n p_t p_ino s) n s1
def ref07N35 (n:Nat) (p_t:api_Tree) (p_ino:Int):Option Int:=ref07N40 n p_t p_ino 0
theorem le_ref07N15 n p_t p_ino:Le0 (ref07N35 n p_t p_ino) (ref07_place p_t p_ino):=by
 unfold ref07N35 ref07_place
 with_reducible repeat' first | apply le_ref07N17 | refine B0 ?_ fun _=>?_ | apply I0 | apply K0 | apply O0 | exact R0
def ref07_Get' (n:Nat) (p_t:api_Tree) (p_ino:Int):Option (api_Node×Bool):=(ref07N35 n p_t p_ino).bind fun x1=>if (decide (x1 < 0)) then some ((⟨0,0,0,[],[],0⟩:api_Node),false) else (idx p_t.Nodes x1).bind fun x2=>some (x2,true)
theorem le_ref07N2 n p_t p_ino:Le0 (ref07_Get' n p_t p_ino) (ref07_Get p_t p_ino):=by
 unfold ref07_Get' ref07_Get
 with_reducible repeat' first | apply le_ref07N15 | refine B0 ?_ fun _=>?_ | apply I0 | apply K0 | apply O0 | exact R0
def ref07_dir' (n:Nat) (p_t:api_Tree) (p_ino:Int):Option (api_Node×Int):=(ref07_Get' n p_t p_ino).bind fun x1=>if (!x1.2) then some ((⟨0,0,0,[],[],0⟩:api_Node),70) else if (x1.1.Kind != 2) then some ((⟨0,0,0,[],[],0⟩:api_Node),73) else some (x1.1,0)
theorem le_ref07N6 n p_t p_ino:Le0 (ref07_dir' n p_t p_ino) (ref07_dir p_t p_ino):=by
 unfold ref07_dir' ref07_dir
 with_reducible repeat' first | apply le_ref07N2 | refine B0 ?_ fun _=>?_ | apply I0 | apply K0 | apply O0 | exact R0
def ref06N3 (_n:Nat) (p_s:List UInt8) (s1:Int):Option ((Int)⊕Bool):=if (decide (s1 < (p_s.length:Int))) then ((idx p_s s1).bind fun x1=>(if (decide ((x1.toNat:Int) < 32)) then some true else (idx p_s s1).bind fun x2=>some ((x2.toNat:Int) == 47)).bind fun c4=>some c4).bind fun v3=>if v3 then out (some false) else chk (InI64 (s1+1)) (some (.inl (s1+1))) else out (ref06N4 ())
theorem le_ref06N2 n p_s s1:Le0 (ref06N3 n p_s s1) (ref06N2 p_s s1):=by
 unfold ref06N3 ref06N2
 with_reducible repeat' first | refine B0 ?_ fun _=>?_ | apply I0 | apply K0 | apply O0 | exact R0
def ref06N6 (n:Nat) (p_s:List UInt8) (s1:Int):Option Bool:=loopN (ref06N3 n p_s) n s1
theorem le_ref06N3 n p_s s1:Le0 (ref06N6 n p_s s1) (ref06N5 p_s s1):=Le0.loop (fun s=>le_ref06N2 n p_s s) n s1
def ref06N1 (n:Nat) (p_s:List UInt8):Option Bool:=((if (decide ((p_s.length:Int) < 1)) then some true else some (decide ((p_s.length:Int) > 32))).bind fun c1=>(if c1 then some true else some (p_s == ([46]))).bind fun c2=>(if c2 then some true else some (p_s == ([46,46]))).bind fun c3=>some c3).bind fun v1=>if v1 then some false else ref06N6 n p_s 0
theorem le_ref06N1 n p_s:Le0 (ref06N1 n p_s) (ref06_Right p_s):=by
 unfold ref06N1 ref06_Right
 with_reducible repeat' first | apply le_ref06N3 | refine B0 ?_ fun _=>?_ | apply I0 | apply K0 | apply O0 | exact R0
def ref07N31 (_n:Nat) (p_n:api_Node) (p_name:List UInt8) (s1:Int):Option ((Int)⊕Int):=if (decide (s1 < (p_n.Ents.length:Int))) then (idx p_n.Ents s1).bind fun x1=>if (x1.Name == p_name) then out (some s1) else chk (InI64 (s1+1)) (some (.inl (s1+1))) else out (ref07N32 ())
theorem le_ref07N13 n p_n p_name s1:Le0 (ref07N31 n p_n p_name s1) (ref07N30 p_n p_name s1):=by
 unfold ref07N31 ref07N30
 with_reducible repeat' first | refine B0 ?_ fun _=>?_ | apply I0 | apply K0 | apply O0 | exact R0
def ref07N34 (n:Nat) (p_n:api_Node) (p_name:List UInt8) (s1:Int):Option Int:=loopN (ref07N31 n p_n p_name) n s1
theorem le_ref07N14 n p_n p_name s1:Le0 (ref07N34 n p_n p_name s1) (ref07N33 p_n p_name s1):=Le0.loop (fun s=>le_ref07N13 n p_n p_name s) n s1
def ref07N29 (n:Nat) (p_n:api_Node) (p_name:List UInt8):Option Int:=ref07N34 n p_n p_name 0
theorem le_ref07N12 n p_n p_name:Le0 (ref07N29 n p_n p_name) (ref07_named p_n p_name):=by
 unfold ref07N29 ref07_named
 with_reducible repeat' first | apply le_ref07N14 | refine B0 ?_ fun _=>?_ | apply I0 | apply K0 | apply O0 | exact R0
def ref07N15 (n:Nat) (p_t:api_Tree) (s1:Int×Int):Option ((Int×Int)⊕Int):=((if (s1.1 != 1) then some (decide (s1.2≤200)) else some false).bind fun c1=>some c1).bind fun v2=>if v2 then (ref07_Get' n p_t s1.1).bind fun x1=>chk (InI64 (s1.2+1)) (some (.inl (x1.1.Up,(s1.2+1)))) else out (some s1.2)
theorem le_ref07N4 n p_t s1:Le0 (ref07N15 n p_t s1) (ref07N14 p_t s1):=by
 unfold ref07N15 ref07N14
 with_reducible repeat' first | apply le_ref07N2 | refine B0 ?_ fun _=>?_ | apply I0 | apply K0 | apply O0 | exact R0
def ref07N17 (n:Nat) (p_t:api_Tree) (s1:Int×Int):Option Int:=loopN (ref07N15 n p_t) n s1
theorem le_ref07N5 n p_t s1:Le0 (ref07N17 n p_t s1) (ref07N16 p_t s1):=Le0.loop (fun s=>le_ref07N4 n p_t s) n s1
def ref07N13 (n:Nat) (p_t:api_Tree) (p_ino:Int):Option Int:=(ref07N17 n p_t (p_ino,0)).bind fun v1=>some v1
theorem le_ref07N3 n p_t p_ino:Le0 (ref07N13 n p_t p_ino) (ref07_depth p_t p_ino):=by
 unfold ref07N13 ref07_depth
 with_reducible repeat' first | apply le_ref07N5 | refine B0 ?_ fun _=>?_ | apply I0 | apply K0 | apply O0 | exact R0
def ref07_full' (n:Nat) (p_t:api_Tree) (p_n:api_Node):Option Bool:=((if (decide ((p_n.Ents.length:Int)≥64)) then some true else (ref07N13 n p_t p_n.Ino).bind fun x1=>some (decide (x1≥12))).bind fun c1=>(if c1 then some true else some (decide (p_t.Cookie≥1099511627776))).bind fun c2=>some c2).bind fun v1=>some v1
theorem le_ref07N11 n p_t p_n:Le0 (ref07_full' n p_t p_n) (ref07_full p_t p_n):=by
 unfold ref07_full' ref07_full
 with_reducible repeat' first | apply le_ref07N3 | refine B0 ?_ fun _=>?_ | apply I0 | apply K0 | apply O0 | exact R0
def ref07N18 (n:Nat) (p_t:api_Tree) (p_ino:Int) (p_name:List UInt8):Option Int:=(ref07_dir' n p_t p_ino).bind fun x1=>if (x1.2 != 0) then some x1.2 else (ref06N1 n p_name).bind fun x2=>if (!x2) then some 60 else (ref07N29 n x1.1 p_name).bind fun x3=>if (decide (x3≥0)) then some 71 else (ref07_full' n p_t x1.1).bind fun x4=>if x4 then some 76 else some 0
theorem le_ref07N7 n p_t p_ino p_name:Le0 (ref07N18 n p_t p_ino p_name) (ref07_enter p_t p_ino p_name):=by
 unfold ref07N18 ref07_enter
 with_reducible repeat' first | apply le_ref07N6 | apply le_ref06N1 | apply le_ref07N12 | apply le_ref07N11 | refine B0 ?_ fun _=>?_ | apply I0 | apply K0 | apply O0 | exact R0
def ref07N43 (_n:Nat) (p_t:api_Tree) (p_n:api_Node) (s1:Bool×Int×(List api_Node)):Option ((Bool×Int×(List api_Node))⊕(Bool×(List api_Node))):=if (decide (s1.2.1 < (p_t.Nodes.length:Int))) then ((((if (!s1.1) then (idx p_t.Nodes s1.2.1).bind fun x1=>some (decide (x1.Ino≥p_n.Ino)) else some false).bind fun c1=>some c1).bind fun v4=>if v4 then chk ((s1.2.2.length+([p_n]).length) * 80≤140737488355328) (some (true,(s1.2.2++[p_n]))) else some (s1.1,s1.2.2)).bind fun v3=>(idx p_t.Nodes s1.2.1).bind fun x2=>if (x2.Ino != p_n.Ino) then (idx p_t.Nodes s1.2.1).bind fun x3=>chk ((v3.2.length+([x3]).length) * 80≤140737488355328) (some (v3.1,(v3.2++[x3]))) else some (v3.1,v3.2)).bind fun v2=>chk (InI64 (s1.2.1+1)) (some (.inl (v2.1,(s1.2.1+1),v2.2))) else out (some (s1.1,s1.2.2))
theorem le_ref07N19 n p_t p_n s1:Le0 (ref07N43 n p_t p_n s1) (ref07N42 p_t p_n s1):=by
 unfold ref07N43 ref07N42
 with_reducible repeat' first | refine B0 ?_ fun _=>?_ | apply I0 | apply K0 | apply O0 | exact R0
def ref07N45 (n:Nat) (p_t:api_Tree) (p_n:api_Node) (s1:Bool×Int×(List api_Node)):Option (Bool×(List api_Node)):=loopN (ref07N43 n p_t p_n) n s1
theorem le_ref07N20 n p_t p_n s1:Le0 (ref07N45 n p_t p_n s1) (ref07N44 p_t p_n s1):=Le0.loop (fun s=>le_ref07N19 n p_t p_n s) n s1
def ref07_with' (n:Nat) (p_t:api_Tree) (p_n:api_Node):Option api_Tree:=(ref07N45 n p_t p_n (false,0,[])).bind fun v1=>(if (!v1.1) then chk ((v1.2.length+([p_n]).length) * 80≤140737488355328) (some (v1.2++[p_n])) else some v1.2).bind fun v5=>some (⟨v5,p_t.Next,p_t.Cookie⟩:api_Tree)
theorem le_ref07N18 n p_t p_n:Le0 (ref07_with' n p_t p_n) (ref07_with p_t p_n):=by
 unfold ref07_with' ref07_with
 with_reducible repeat' first | apply le_ref07N20 | refine B0 ?_ fun _=>?_ | apply I0 | apply K0 | apply O0 | exact R0
def ref07N22 (_n:Nat) (x1:api_Node×Bool) (p_name:List UInt8) (p_of:Int) (p_t:api_Tree) (s1:Bool×Int×(List api_Ent)):Option ((Bool×Int×(List api_Ent))⊕(Bool×(List api_Ent))):=if (decide (s1.2.1 < (x1.1.Ents.length:Int))) then (((if (!s1.1) then (idx x1.1.Ents s1.2.1).bind fun x2=>some (!(Op.bytesLess x2.Name p_name||x2.Name == p_name)) else some false).bind fun c1=>some c1).bind fun v3=>if v3 then chk ((s1.2.2.length+([(⟨p_name,p_of,p_t.Cookie⟩:api_Ent)]).length) * 32≤140737488355328) (some (true,(s1.2.2++[(⟨p_name,p_of,p_t.Cookie⟩:api_Ent)]))) else some (s1.1,s1.2.2)).bind fun v2=>(idx x1.1.Ents s1.2.1).bind fun x3=>chk ((v2.2.length+([x3]).length) * 32≤140737488355328) (chk (InI64 (s1.2.1+1)) (some (.inl (v2.1,(s1.2.1+1),(v2.2++[x3]))))) else out (some (s1.1,s1.2.2))
theorem le_ref07N9 n x1 p_name p_of p_t s1:Le0 (ref07N22 n x1 p_name p_of p_t s1) (ref07N21 x1 p_name p_of p_t s1):=by
 unfold ref07N22 ref07N21
 with_reducible repeat' first | refine B0 ?_ fun _=>?_ | apply I0 | apply K0 | apply O0 | exact R0
def ref07N24 (n:Nat) (x1:api_Node×Bool) (p_name:List UInt8) (p_of:Int) (p_t:api_Tree) (s1:Bool×Int×(List api_Ent)):Option (Bool×(List api_Ent)):=loopN (ref07N22 n x1 p_name p_of p_t) n s1
theorem le_ref07N10 n x1 p_name p_of p_t s1:Le0 (ref07N24 n x1 p_name p_of p_t s1) (ref07N23 x1 p_name p_of p_t s1):=Le0.loop (fun s=>le_ref07N9 n x1 p_name p_of p_t s) n s1
def ref07N20 (n:Nat) (p_t:api_Tree) (p_ino:Int) (p_name:List UInt8) (p_of:Int):Option api_Tree:=(ref07_Get' n p_t p_ino).bind fun x1=>(ref07N24 n x1 p_name p_of p_t (false,0,[])).bind fun v1=>(if (!v1.1) then chk ((v1.2.length+([(⟨p_name,p_of,p_t.Cookie⟩:api_Ent)]).length) * 32≤140737488355328) (some (v1.2++[(⟨p_name,p_of,p_t.Cookie⟩:api_Ent)])) else some v1.2).bind fun v4=>chk (InI64 (p_t.Cookie+1)) ((ref07_with' n (⟨p_t.Nodes,p_t.Next,(p_t.Cookie+1)⟩:api_Tree) (⟨x1.1.Ino,x1.1.Kind,x1.1.Links,x1.1.Data,v4,x1.1.Up⟩:api_Node)).bind fun x4=>some x4)
theorem le_ref07N8 n p_t p_ino p_name p_of:Le0 (ref07N20 n p_t p_ino p_name p_of) (ref07N19 p_t p_ino p_name p_of):=by
 unfold ref07N20 ref07N19
 with_reducible repeat' first | apply le_ref07N2 | apply le_ref07N10 | apply le_ref07N18 | refine B0 ?_ fun _=>?_ | apply I0 | apply K0 | apply O0 | exact R0
def ref07_Add' (n:Nat) (p_t:api_Tree) (p_ino:Int) (p_name:List UInt8) (p_kind:Int):Option (api_Tree×Int×Int):=((if (p_kind != 1) then some (p_kind != 2) else some false).bind fun c1=>some c1).bind fun v1=>if v1 then some (p_t,0,1) else (ref07N18 n p_t p_ino p_name).bind fun x1=>if (x1 != 0) then some (p_t,0,x1) else ((if (decide ((p_t.Nodes.length:Int)≥200)) then some true else some (decide (p_t.Next≥1099511627776))).bind fun c2=>some c2).bind fun v2=>if v2 then some (p_t,0,76) else (if (p_kind == 2) then some p_ino else some 0).bind fun v3=>chk (InI64 (p_t.Next+1)) ((ref07_with' n (⟨p_t.Nodes,(p_t.Next+1),p_t.Cookie⟩:api_Tree) (⟨p_t.Next,p_kind,1,[],[],v3⟩:api_Node)).bind fun x2=>(ref07N20 n x2 p_ino p_name p_t.Next).bind fun x3=>some (x3,p_t.Next,0))
theorem le_ref07N1 n p_t p_ino p_name p_kind:Le0 (ref07_Add' n p_t p_ino p_name p_kind) (ref07_Add p_t p_ino p_name p_kind):=by
 unfold ref07_Add' ref07_Add
 with_reducible repeat' first | apply le_ref07N7 | apply le_ref07N18 | apply le_ref07N8 | refine B0 ?_ fun _=>?_ | apply I0 | apply K0 | apply O0 | exact R0
def slicesN33 (_n:Nat) (p_s1:List api_Ent) (p_s2:List api_Ent) (s1:Int):Option ((Int)⊕Bool):=if (decide (s1 < (p_s1.length:Int))) then (idx p_s1 s1).bind fun x1=>(idx p_s2 s1).bind fun x2=>if (!(x1.Name == x2.Name&&(x1.Ino == x2.Ino&&(x1.Cookie == x2.Cookie&&true)))) then out (some false) else chk (InI64 (s1+1)) (some (.inl (s1+1))) else out (slicesN34 ())
theorem le_slicesN16 n p_s1 p_s2 s1:Le0 (slicesN33 n p_s1 p_s2 s1) (slicesN32 p_s1 p_s2 s1):=by
 unfold slicesN33 slicesN32
 with_reducible repeat' first | refine B0 ?_ fun _=>?_ | apply I0 | apply K0 | apply O0 | exact R0
def slicesN36 (n:Nat) (p_s1:List api_Ent) (p_s2:List api_Ent) (s1:Int):Option Bool:=loopN (slicesN33 n p_s1 p_s2) n s1
theorem le_slicesN17 n p_s1 p_s2 s1:Le0 (slicesN36 n p_s1 p_s2 s1) (slicesN35 p_s1 p_s2 s1):=Le0.loop (fun s=>le_slicesN16 n p_s1 p_s2 s) n s1
def slicesN31 (n:Nat) (p_s1:List api_Ent) (p_s2:List api_Ent):Option Bool:=if ((p_s1.length:Int) != (p_s2.length:Int)) then some false else slicesN36 n p_s1 p_s2 0
theorem le_slicesN15 n p_s1 p_s2:Le0 (slicesN31 n p_s1 p_s2) (slicesN30 p_s1 p_s2):=by
 unfold slicesN31 slicesN30
 with_reducible repeat' first | apply le_slicesN17 | refine B0 ?_ fun _=>?_ | apply I0 | apply K0 | apply O0 | exact R0
def treeN12 (n:Nat) (p_x:api_Node) (p_y:api_Node):Option Bool:=((if (p_x.Ino == p_y.Ino) then some (p_x.Kind == p_y.Kind) else some false).bind fun c1=>(if c1 then some (p_x.Links == p_y.Links) else some false).bind fun c2=>(if c2 then some (p_x.Up == p_y.Up) else some false).bind fun c3=>(if c3 then (bytes_Equal p_x.Data p_y.Data).bind fun x1=>some x1 else some false).bind fun c4=>(if c4 then (slicesN31 n p_x.Ents p_y.Ents).bind fun x2=>some x2 else some false).bind fun c5=>some c5).bind fun v1=>some v1
theorem le_treeN8 n p_x p_y:Le0 (treeN12 n p_x p_y) (tree_Same_1 p_x p_y):=by
 unfold treeN12 tree_Same_1
 with_reducible repeat' first | apply le_slicesN15 | refine B0 ?_ fun _=>?_ | apply I0 | apply K0 | apply O0 | exact R0
def slicesN26 (n:Nat) (p_s1:List api_Node) (p_s2:List api_Node) (s1:Int):Option ((Int)⊕Bool):=if (decide (s1 < (p_s1.length:Int))) then (idx p_s1 s1).bind fun x1=>(idx p_s2 s1).bind fun x2=>(treeN12 n x1 x2).bind fun x3=>if (!x3) then out (some false) else chk (InI64 (s1+1)) (some (.inl (s1+1))) else out (slicesN27 ())
theorem le_slicesN13 n p_s1 p_s2 s1:Le0 (slicesN26 n p_s1 p_s2 s1) (slicesN25 p_s1 p_s2 s1):=by
 unfold slicesN26 slicesN25
 with_reducible repeat' first | apply le_treeN8 | refine B0 ?_ fun _=>?_ | apply I0 | apply K0 | apply O0 | exact R0
def slicesN29 (n:Nat) (p_s1:List api_Node) (p_s2:List api_Node) (s1:Int):Option Bool:=loopN (slicesN26 n p_s1 p_s2) n s1
theorem le_slicesN14 n p_s1 p_s2 s1:Le0 (slicesN29 n p_s1 p_s2 s1) (slicesN28 p_s1 p_s2 s1):=Le0.loop (fun s=>le_slicesN13 n p_s1 p_s2 s) n s1
def slicesN24 (n:Nat) (p_s1:List api_Node) (p_s2:List api_Node):Option Bool:=if ((p_s1.length:Int) != (p_s2.length:Int)) then some false else slicesN29 n p_s1 p_s2 0
theorem le_slicesN12 n p_s1 p_s2:Le0 (slicesN24 n p_s1 p_s2) (slicesN23 p_s1 p_s2):=by
 unfold slicesN24 slicesN23
 with_reducible repeat' first | apply le_slicesN14 | refine B0 ?_ fun _=>?_ | apply I0 | apply K0 | apply O0 | exact R0
def tree_Same' (n:Nat) (p_a:api_Tree) (p_b:api_Tree):Option Bool:=((if (p_a.Next == p_b.Next) then some (p_a.Cookie == p_b.Cookie) else some false).bind fun c1=>(if c1 then (slicesN24 n p_a.Nodes p_b.Nodes).bind fun x1=>some x1 else some false).bind fun c2=>some c2).bind fun v1=>some v1
theorem le_treeN7 n p_a p_b:Le0 (tree_Same' n p_a p_b) (tree_Same p_a p_b):=by
 unfold tree_Same' tree_Same
 with_reducible repeat' first | apply le_slicesN12 | refine B0 ?_ fun _=>?_ | apply I0 | apply K0 | apply O0 | exact R0
def slicesN14 (_n:Nat) (p_s:List api_Past):Option (List api_Past):=chk (p_s.length * 96≤140737488355328) (some p_s)
theorem eq_slicesN1 (p_s:List api_Past) (h:p_s.length * 96≤140737488355328):slicesN13 p_s=some p_s:=by
 unfold slicesN13
 refine Le0.clone fun b hb=>?_
 cases b with
 | true=>rw [hb rfl]; rfl
 | false =>
  rw [if_neg (by decide)]
  show chk _ _=_
  unfold chk
  rw [if_pos (by simpa using h)]; rfl
theorem le_slicesN7 n p_s:Le0 (slicesN14 n p_s) (slicesN13 p_s):=fun r hr=>by
 obtain ⟨h1,h2⟩:=chk_some hr
 cases h2
 exact eq_slicesN1 _ h1
def slicesN4 (_n:Nat) (p_x:List api_Node) (p_target:Int) (s1:Int×Int):Option ((Int×Int)⊕Int):=if (decide (s1.1 < s1.2)) then chk (InI64 (s1.1+s1.2)) ((idx p_x (IntKind.i64.wrap (shrK .u64 (IntKind.u64.wrap (s1.1+s1.2)) 1))).bind fun x1=>(shot_find_1 x1 p_target).bind fun x2=>if (decide (x2 < 0)) then chk (InI64 ((IntKind.i64.wrap (shrK .u64 (IntKind.u64.wrap (s1.1+s1.2)) 1))+1)) (some (.inl (((IntKind.i64.wrap (shrK .u64 (IntKind.u64.wrap (s1.1+s1.2)) 1))+1),s1.2))) else some (.inl (s1.1,(IntKind.i64.wrap (shrK .u64 (IntKind.u64.wrap (s1.1+s1.2)) 1))))) else out (some s1.1)
theorem le_slicesN2 n p_x p_target s1:Le0 (slicesN4 n p_x p_target s1) (slicesN3 p_x p_target s1):=by
 unfold slicesN4 slicesN3
 with_reducible repeat' first | refine B0 ?_ fun _=>?_ | apply I0 | apply K0 | apply O0 | exact R0
def slicesN6 (n:Nat) (p_x:List api_Node) (p_target:Int) (s1:Int×Int):Option Int:=loopN (slicesN4 n p_x p_target) n s1
theorem le_slicesN3 n p_x p_target s1:Le0 (slicesN6 n p_x p_target s1) (slicesN5 p_x p_target s1):=Le0.loop (fun s=>le_slicesN2 n p_x p_target s) n s1
def slicesN2 (n:Nat) (p_x:List api_Node) (p_target:Int):Option (Int×Bool):=(slicesN6 n p_x p_target (0,(p_x.length:Int))).bind fun v1=>((if (decide (v1 < (p_x.length:Int))) then (idx p_x v1).bind fun x3=>(shot_find_1 x3 p_target).bind fun x4=>some (x4 == 0) else some false).bind fun c1=>some c1).bind fun v2=>some (v1,v2)
theorem le_slicesN1 n p_x p_target:Le0 (slicesN2 n p_x p_target) (slicesN1 p_x p_target):=by
 unfold slicesN2 slicesN1
 with_reducible repeat' first | apply le_slicesN3 | refine B0 ?_ fun _=>?_ | apply I0 | apply K0 | apply O0 | exact R0
def shot_find' (n:Nat) (p_l:List api_Node) (p_ino:Int):Option Int:=(slicesN2 n p_l p_ino).bind fun x1=>if (!x1.2) then some (-1) else some x1.1
theorem le_shotN13 n p_l p_ino:Le0 (shot_find' n p_l p_ino) (shot_find p_l p_ino):=by
 unfold shot_find' shot_find
 with_reducible repeat' first | apply le_slicesN1 | refine B0 ?_ fun _=>?_ | apply I0 | apply K0 | apply O0 | exact R0
def shot_node' (n:Nat) (p_a:api_Node) (p_b:api_Node):Option Bool:=((if (p_a.Ino == p_b.Ino) then some (p_a.Kind == p_b.Kind) else some false).bind fun c1=>(if c1 then some (p_a.Links == p_b.Links) else some false).bind fun c2=>(if c2 then some (p_a.Up == p_b.Up) else some false).bind fun c3=>(if c3 then some (p_a.Data == p_b.Data) else some false).bind fun c4=>(if c4 then (slicesN31 n p_a.Ents p_b.Ents).bind fun x1=>some x1 else some false).bind fun c5=>some c5).bind fun v1=>some v1
theorem le_shotN25 n p_a p_b:Le0 (shot_node' n p_a p_b) (shot_node p_a p_b):=by
 unfold shot_node' shot_node
 with_reducible repeat' first | apply le_slicesN15 | refine B0 ?_ fun _=>?_ | apply I0 | apply K0 | apply O0 | exact R0
def slicesN47 (_n:Nat) (p_s:List api_Shot) (p_f_c0_0:Int) (p_f_c1_0:Int) (s1:Int):Option ((Int)⊕Int):=if (decide (s1 < (p_s.length:Int))) then (idx p_s s1).bind fun x1=>(shot_seen_1 x1 p_f_c0_0 p_f_c1_0).bind fun x2=>if x2 then out (some s1) else chk (InI64 (s1+1)) (some (.inl (s1+1))) else out (slicesN48 ())
theorem le_slicesN22 n p_s p_f_c0_0 p_f_c1_0 s1:Le0 (slicesN47 n p_s p_f_c0_0 p_f_c1_0 s1) (slicesN46 p_s p_f_c0_0 p_f_c1_0 s1):=by
 unfold slicesN47 slicesN46
 with_reducible repeat' first | refine B0 ?_ fun _=>?_ | apply I0 | apply K0 | apply O0 | exact R0
def slicesN50 (n:Nat) (p_s:List api_Shot) (p_f_c0_0:Int) (p_f_c1_0:Int) (s1:Int):Option Int:=loopN (slicesN47 n p_s p_f_c0_0 p_f_c1_0) n s1
theorem le_slicesN23 n p_s p_f_c0_0 p_f_c1_0 s1:Le0 (slicesN50 n p_s p_f_c0_0 p_f_c1_0 s1) (slicesN49 p_s p_f_c0_0 p_f_c1_0 s1):=Le0.loop (fun s=>le_slicesN22 n p_s p_f_c0_0 p_f_c1_0 s) n s1
def slicesN45 (n:Nat) (p_s:List api_Shot) (p_f_c0_0:Int) (p_f_c1_0:Int):Option Int:=slicesN50 n p_s p_f_c0_0 p_f_c1_0 0
theorem le_slicesN21 n p_s p_f_c0_0 p_f_c1_0:Le0 (slicesN45 n p_s p_f_c0_0 p_f_c1_0) (slicesN44 p_s p_f_c0_0 p_f_c1_0):=by
 unfold slicesN45 slicesN44
 with_reducible repeat' first | apply le_slicesN23 | refine B0 ?_ fun _=>?_ | apply I0 | apply K0 | apply O0 | exact R0
def slicesN20 (n:Nat) (p_s:List api_Shot) (p_f_c0:Int) (p_f_c1:Int):Option Bool:=(slicesN45 n p_s p_f_c0 p_f_c1).bind fun x1=>some (decide (x1≥0))
theorem le_slicesN10 n p_s p_f_c0 p_f_c1:Le0 (slicesN20 n p_s p_f_c0 p_f_c1) (slicesN19 p_s p_f_c0 p_f_c1):=by
 unfold slicesN20 slicesN19
 with_reducible repeat' first | apply le_slicesN21 | refine B0 ?_ fun _=>?_ | apply I0 | apply K0 | apply O0 | exact R0
def shot_seen' (n:Nat) (p_l:List api_Shot) (p_from:Int) (p_till:Int):Option Bool:=(slicesN20 n p_l p_from p_till).bind fun x1=>some x1
theorem le_shotN29 n p_l p_from p_till:Le0 (shot_seen' n p_l p_from p_till) (shot_seen p_l p_from p_till):=by
 unfold shot_seen' shot_seen
 with_reducible repeat' first | apply le_slicesN10 | refine B0 ?_ fun _=>?_ | apply I0 | apply K0 | apply O0 | exact R0
def shotN3 (n:Nat) (p_s:api_Shots) (p_t:api_Tree) (s1:Int×(List api_Past)):Option ((Int×(List api_Past))⊕(List api_Past)):=if (decide (s1.1 < (p_s.Now.Nodes.length:Int))) then ((idx p_s.Now.Nodes s1.1).bind fun x3=>(shot_find' n p_t.Nodes x3.Ino).bind fun x4=>((if (decide (x4 < 0)) then some true else (idx p_t.Nodes x4).bind fun x5=>(shot_node' n x3 x5).bind fun x6=>some (!x6)).bind fun c1=>(if c1 then (idx p_s.Since s1.1).bind fun x7=>(shot_seen' n p_s.Taken x7 (p_s.Tick+1)).bind fun x8=>some x8 else some false).bind fun c2=>some c2).bind fun v3=>if v3 then (idx p_s.Since s1.1).bind fun x9=>chk ((s1.2.length+([(⟨x9,(p_s.Tick+1),x3⟩:api_Past)]).length) * 96≤140737488355328) (some (s1.2++[(⟨x9,(p_s.Tick+1),x3⟩:api_Past)])) else some s1.2).bind fun v2=>chk (InI64 (s1.1+1)) (some (.inl ((s1.1+1),v2))) else out (some s1.2)
theorem le_shotN5 n p_s p_t s1:Le0 (shotN3 n p_s p_t s1) (shot_Put_B1 p_s p_t s1):=by
 unfold shotN3 shot_Put_B1
 with_reducible repeat' first | apply le_shotN13 | apply le_shotN25 | apply le_shotN29 | refine B0 ?_ fun _=>?_ | apply I0 | apply K0 | apply O0 | exact R0
def shotN5 (n:Nat) (p_s:api_Shots) (p_t:api_Tree) (s1:Int×(List api_Past)):Option (List api_Past):=loopN (shotN3 n p_s p_t) n s1
theorem le_shotN7 n p_s p_t s1:Le0 (shotN5 n p_s p_t s1) (shot_Put_L1 p_s p_t s1):=Le0.loop (fun s=>le_shotN5 n p_s p_t s) n s1
def shotN4 (n:Nat) (p_t:api_Tree) (p_s:api_Shots) (s2:Int×(List Int)):Option ((Int×(List Int))⊕(List Int)):=if (decide (s2.1 < (p_t.Nodes.length:Int))) then (idx p_t.Nodes s2.1).bind fun x10=>((shot_find' n p_s.Now.Nodes x10.Ino).bind fun x11=>((if (decide (x11≥0)) then (idx p_s.Now.Nodes x11).bind fun x12=>(shot_node' n x10 x12).bind fun x13=>some x13 else some false).bind fun c3=>some c3).bind fun v6=>if v6 then (idx p_s.Since x11).bind fun x14=>some x14 else some (p_s.Tick+1)).bind fun v5=>chk ((s2.2.length+([v5]).length) * 8≤140737488355328) (chk (InI64 (s2.1+1)) (some (.inl ((s2.1+1),(s2.2++[v5]))))) else out (some s2.2)
theorem le_shotN6 n p_t p_s s2:Le0 (shotN4 n p_t p_s s2) (shot_Put_B2 p_t p_s s2):=by
 unfold shotN4 shot_Put_B2
 with_reducible repeat' first | apply le_shotN13 | apply le_shotN25 | refine B0 ?_ fun _=>?_ | apply I0 | apply K0 | apply O0 | exact R0
def shotN6 (n:Nat) (p_t:api_Tree) (p_s:api_Shots) (s2:Int×(List Int)):Option (List Int):=loopN (shotN4 n p_t p_s) n s2
theorem le_shotN8 n p_t p_s s2:Le0 (shotN6 n p_t p_s s2) (shot_Put_L2 p_t p_s s2):=Le0.loop (fun s=>le_shotN6 n p_t p_s s) n s2
def shot_Put' (n:Nat) (p_s:api_Shots) (p_t:api_Tree):Option api_Shots:=(tree_Same' n p_s.Now p_t).bind fun x1=>if x1 then some p_s else chk (InI64 (p_s.Tick+1)) ((slicesN14 n p_s.Pasts).bind fun x2=>(shotN5 n p_s p_t (0,x2)).bind fun v1=>(shotN6 n p_t p_s (0,[])).bind fun v4=>some (⟨p_t,(p_s.Tick+1),v4,v1,p_s.Taken,p_s.Next⟩:api_Shots))
theorem le_shot_Put n p_s p_t:Le0 (shot_Put' n p_s p_t) (shot_Put p_s p_t):=by
 unfold shot_Put' shot_Put
 with_reducible repeat' first | apply le_treeN7 | apply le_slicesN7 | apply le_shotN7 | apply le_shotN8 | refine B0 ?_ fun _=>?_ | apply I0 | apply K0 | apply O0 | exact R0
def shotN16 (_n:Nat) (x2:api_Node) (self_f:(Int×(List (Int×struct_struct))×(List (Int×api_Node))×(List api_Node))→Option (Bool×(List (Int×struct_struct))×(List (Int×api_Node))×(List api_Node))) (s1:Bool×Int×(List (Int×struct_struct))×(List (Int×api_Node))×(List api_Node)):Option ((Bool×Int×(List (Int×struct_struct))×(List (Int×api_Node))×(List api_Node))⊕(Bool×(List (Int×struct_struct))×(List (Int×api_Node))×(List api_Node))):=if (decide (s1.2.1 < (x2.Ents.length:Int))) then ((idx x2.Ents s1.2.1).bind fun x3=>(self_f (x3.Ino,s1.2.2.1,s1.2.2.2.1,s1.2.2.2.2)).bind fun x4=>(if x4.1 then some s1.1 else some false).bind fun c1=>some (c1,x4.2.1,x4.2.2.1,x4.2.2.2)).bind fun v2=>chk (InI64 (s1.2.1+1)) (some (.inl (v2.1,(s1.2.1+1),v2.2.1,v2.2.2.1,v2.2.2.2))) else out (some (s1.1,s1.2.2.1,s1.2.2.2.1,s1.2.2.2.2))
theorem le_shotN16 n x2 (self_f:(Int×(List (Int×struct_struct))×(List (Int×api_Node))×(List api_Node))→Option (Bool×(List (Int×struct_struct))×(List (Int×api_Node))×(List api_Node))) (self_g:(Int×(List (Int×struct_struct))×(List (Int×api_Node))×(List api_Node))→Option (Bool×(List (Int×struct_struct))×(List (Int×api_Node))×(List api_Node))) (hs:∀a,Le0 (self_f a) (self_g a)) (s1:Bool×Int×(List (Int×struct_struct))×(List (Int×api_Node))×(List api_Node)):Le0 (shotN16 n x2 self_f s1) (shotN15 x2 self_g s1):=by
 unfold shotN16 shotN15
 with_reducible repeat' first | exact hs | exact hs _ | refine B0 ?_ fun _=>?_ | apply I0 | apply K0 | apply O0 | exact R0
theorem moN1 (x2:api_Node) (self_f:(Int×(List (Int×struct_struct))×(List (Int×api_Node))×(List api_Node))→Option (Bool×(List (Int×struct_struct))×(List (Int×api_Node))×(List api_Node))) (self_g:(Int×(List (Int×struct_struct))×(List (Int×api_Node))×(List api_Node))→Option (Bool×(List (Int×struct_struct))×(List (Int×api_Node))×(List api_Node))) (hs:∀a,Le0 (self_f a) (self_g a)) (s1:Bool×Int×(List (Int×struct_struct))×(List (Int×api_Node))×(List api_Node)):Le0 (shotN15 x2 self_f s1) (shotN15 x2 self_g s1):=by
 unfold shotN15
 with_reducible repeat' first | exact hs | exact hs _ | refine B0 ?_ fun _=>?_ | apply I0 | apply K0 | apply O0 | exact R0
def shotN20 (n:Nat) (x2:api_Node) (self_f:(Int×(List (Int×struct_struct))×(List (Int×api_Node))×(List api_Node))→Option (Bool×(List (Int×struct_struct))×(List (Int×api_Node))×(List api_Node))) (s1:Bool×Int×(List (Int×struct_struct))×(List (Int×api_Node))×(List api_Node)):Option (Bool×(List (Int×struct_struct))×(List (Int×api_Node))×(List api_Node)):=loopN (shotN16 n x2 self_f) n s1
theorem le_shotN18 n x2 (self_f:(Int×(List (Int×struct_struct))×(List (Int×api_Node))×(List api_Node))→Option (Bool×(List (Int×struct_struct))×(List (Int×api_Node))×(List api_Node))) (self_g:(Int×(List (Int×struct_struct))×(List (Int×api_Node))×(List api_Node))→Option (Bool×(List (Int×struct_struct))×(List (Int×api_Node))×(List api_Node))) (hs:∀a,Le0 (self_f a) (self_g a)) (s1:Bool×Int×(List (Int×struct_struct))×(List (Int×api_Node))×(List api_Node)):Le0 (shotN20 n x2 self_f s1) (shotN19 x2 self_g s1):=Le0.loop (fun s=>le_shotN16 n x2 self_f self_g hs s) n s1
theorem moN3 (x2:api_Node) (self_f:(Int×(List (Int×struct_struct))×(List (Int×api_Node))×(List api_Node))→Option (Bool×(List (Int×struct_struct))×(List (Int×api_Node))×(List api_Node))) (self_g:(Int×(List (Int×struct_struct))×(List (Int×api_Node))×(List api_Node))→Option (Bool×(List (Int×struct_struct))×(List (Int×api_Node))×(List api_Node))) (hs:∀a,Le0 (self_f a) (self_g a)) (s1:Bool×Int×(List (Int×struct_struct))×(List (Int×api_Node))×(List api_Node)):Le0 (shotN19 x2 self_f s1) (shotN19 x2 self_g s1):=Le0.loop2 (fun s=>moN1 x2 self_f self_g hs s) s1
def shotN18 (n:Nat) (self_f:(Int×(List (Int×struct_struct))×(List (Int×api_Node))×(List api_Node))→Option (Bool×(List (Int×struct_struct))×(List (Int×api_Node))×(List api_Node))) (p_ino:Int) (p_h1:List (Int×struct_struct)) (p_h3:List (Int×api_Node)) (p_h5:List api_Node):Option (Bool×(List (Int×struct_struct))×(List (Int×api_Node))×(List api_Node)):=(some ((mget p_ino p_h1).getD ((⟨⟩:struct_struct):struct_struct))).bind fun _=>if (mget p_ino p_h1).isSome then some (true,p_h1,p_h3,p_h5) else chk (InI64 p_ino∧p_h1.length < 140737488355328) ((some ((mget p_ino p_h3).getD ((⟨0,0,0,[],[],0⟩:api_Node):api_Node))).bind fun x2=>if (!(mget p_ino p_h3).isSome) then some (false,(mset p_ino (⟨⟩:struct_struct) p_h1),p_h3,p_h5) else chk ((p_h5.length+([x2]).length) * 80≤140737488355328) ((shotN20 n x2 self_f (true,0,(mset p_ino (⟨⟩:struct_struct) p_h1),p_h3,(p_h5++[x2]))).bind fun v1=>some (v1.1,v1.2.1,v1.2.2.1,v1.2.2.2)))
theorem le_shotN17 n (self_f:(Int×(List (Int×struct_struct))×(List (Int×api_Node))×(List api_Node))→Option (Bool×(List (Int×struct_struct))×(List (Int×api_Node))×(List api_Node))) (self_g:(Int×(List (Int×struct_struct))×(List (Int×api_Node))×(List api_Node))→Option (Bool×(List (Int×struct_struct))×(List (Int×api_Node))×(List api_Node))) (hs:∀a,Le0 (self_f a) (self_g a)) (p_ino:Int) (p_h1:List (Int×struct_struct)) (p_h3:List (Int×api_Node)) (p_h5:List api_Node):Le0 (shotN18 n self_f p_ino p_h1 p_h3 p_h5) (shotN17 self_g p_ino p_h1 p_h3 p_h5):=by
 unfold shotN18 shotN17
 with_reducible repeat' first | apply le_shotN18 | exact hs | exact hs _ | refine B0 ?_ fun _=>?_ | apply I0 | apply K0 | apply O0 | exact R0
theorem moN2 (self_f:(Int×(List (Int×struct_struct))×(List (Int×api_Node))×(List api_Node))→Option (Bool×(List (Int×struct_struct))×(List (Int×api_Node))×(List api_Node))) (self_g:(Int×(List (Int×struct_struct))×(List (Int×api_Node))×(List api_Node))→Option (Bool×(List (Int×struct_struct))×(List (Int×api_Node))×(List api_Node))) (hs:∀a,Le0 (self_f a) (self_g a)) (p_ino:Int) (p_h1:List (Int×struct_struct)) (p_h3:List (Int×api_Node)) (p_h5:List api_Node):Le0 (shotN17 self_f p_ino p_h1 p_h3 p_h5) (shotN17 self_g p_ino p_h1 p_h3 p_h5):=by
 unfold shotN17
 with_reducible repeat' first | apply moN3 | exact hs | exact hs _ | refine B0 ?_ fun _=>?_ | apply I0 | apply K0 | apply O0 | exact R0
def shotN14 (n:Nat) (p_ino:Int) (p_h1:List (Int×struct_struct)) (p_h3:List (Int×api_Node)) (p_h5:List api_Node):Option (Bool×(List (Int×struct_struct))×(List (Int×api_Node))×(List api_Node)):=recN (fun f (a:Int×(List (Int×struct_struct))×(List (Int×api_Node))×(List api_Node))=>shotN18 n f a.1 a.2.1 a.2.2.1 a.2.2.2) n (p_ino,p_h1,p_h3,p_h5)
theorem le_shotN15 n p_ino p_h1 p_h3 p_h5:Le0 (shotN14 n p_ino p_h1 p_h3 p_h5) (shotN13 p_ino p_h1 p_h3 p_h5):=Le0.fix (fun f g h a=>moN2 f g h a.1 a.2.1 a.2.2.1 a.2.2.2) (fun f g h a=>le_shotN17 n f g h a.1 a.2.1 a.2.2.1 a.2.2.2) n (p_ino,p_h1,p_h3,p_h5)
def shotN22 (n:Nat) (x2:api_Node) (s1:Bool×Int×(List (Int×struct_struct))×(List (Int×api_Node))×(List api_Node)):Option ((Bool×Int×(List (Int×struct_struct))×(List (Int×api_Node))×(List api_Node))⊕(Bool×(List (Int×struct_struct))×(List (Int×api_Node))×(List api_Node))):=if (decide (s1.2.1 < (x2.Ents.length:Int))) then ((idx x2.Ents s1.2.1).bind fun x3=>(shotN14 n x3.Ino s1.2.2.1 s1.2.2.2.1 s1.2.2.2.2).bind fun x4=>(if x4.1 then some s1.1 else some false).bind fun c1=>some (c1,x4.2.1,x4.2.2.1,x4.2.2.2)).bind fun v2=>chk (InI64 (s1.2.1+1)) (some (.inl (v2.1,(s1.2.1+1),v2.2.1,v2.2.2.1,v2.2.2.2))) else out (some (s1.1,s1.2.2.1,s1.2.2.2.1,s1.2.2.2.2))
theorem le_shotN19 n x2 s1:Le0 (shotN22 n x2 s1) (shotN21 x2 s1):=by
 unfold shotN22 shotN21
 with_reducible repeat' first | apply le_shotN15 | refine B0 ?_ fun _=>?_ | apply I0 | apply K0 | apply O0 | exact R0
def shotN24 (n:Nat) (x2:api_Node) (s1:Bool×Int×(List (Int×struct_struct))×(List (Int×api_Node))×(List api_Node)):Option (Bool×(List (Int×struct_struct))×(List (Int×api_Node))×(List api_Node)):=loopN (shotN22 n x2) n s1
theorem le_shotN20 n x2 s1:Le0 (shotN24 n x2 s1) (shotN23 x2 s1):=Le0.loop (fun s=>le_shotN19 n x2 s) n s1
def shot_had_1' (n:Nat) (p_ino:Int) (p_h1:List (Int×struct_struct)) (p_h3:List (Int×api_Node)):Option (Bool×(List (Int×struct_struct))×(List (Int×api_Node))×(List api_Node)):=(some ((mget p_ino p_h1).getD ((⟨⟩:struct_struct):struct_struct))).bind fun _=>if (mget p_ino p_h1).isSome then some (true,p_h1,p_h3,[]) else chk (InI64 p_ino∧p_h1.length < 140737488355328) ((some ((mget p_ino p_h3).getD ((⟨0,0,0,[],[],0⟩:api_Node):api_Node))).bind fun x2=>if (!(mget p_ino p_h3).isSome) then some (false,(mset p_ino (⟨⟩:struct_struct) p_h1),p_h3,[]) else chk (([x2]).length * 80≤140737488355328) ((shotN24 n x2 (true,0,(mset p_ino (⟨⟩:struct_struct) p_h1),p_h3,[x2])).bind fun v1=>some (v1.1,v1.2.1,v1.2.2.1,v1.2.2.2)))
theorem le_shotN14 n p_ino p_h1 p_h3:Le0 (shot_had_1' n p_ino p_h1 p_h3) (shot_had_1 p_ino p_h1 p_h3):=by
 unfold shot_had_1' shot_had_1
 with_reducible repeat' first | apply le_shotN20 | refine B0 ?_ fun _=>?_ | apply I0 | apply K0 | apply O0 | exact R0
def shotN25 (_n:Nat) (p_s:api_Shots) (p_x:api_Shot) (s1:Int×(List (Int×api_Node))):Option ((Int×(List (Int×api_Node)))⊕(List (Int×api_Node))):=if (decide (s1.1 < (p_s.Pasts.length:Int))) then ((idx p_s.Pasts s1.1).bind fun x1=>((if (decide (x1.From≤p_x.At)) then some (decide (p_x.At < x1.Till)) else some false).bind fun c1=>some c1).bind fun v3=>if v3 then chk (InI64 x1.Node.Ino∧s1.2.length < 140737488355328) (some (mset x1.Node.Ino x1.Node s1.2)) else some s1.2).bind fun v2=>chk (InI64 (s1.1+1)) (some (.inl ((s1.1+1),v2))) else out (some s1.2)
theorem le_shotN21 n p_s p_x s1:Le0 (shotN25 n p_s p_x s1) (shot_had_B1 p_s p_x s1):=by
 unfold shotN25 shot_had_B1
 with_reducible repeat' first | refine B0 ?_ fun _=>?_ | apply I0 | apply K0 | apply O0 | exact R0
def shotN27 (n:Nat) (p_s:api_Shots) (p_x:api_Shot) (s1:Int×(List (Int×api_Node))):Option (List (Int×api_Node)):=loopN (shotN25 n p_s p_x) n s1
theorem le_shotN23 n p_s p_x s1:Le0 (shotN27 n p_s p_x s1) (shot_had_L1 p_s p_x s1):=Le0.loop (fun s=>le_shotN21 n p_s p_x s) n s1
def shotN26 (_n:Nat) (p_s:api_Shots) (p_x:api_Shot) (s2:Int×(List (Int×api_Node))):Option ((Int×(List (Int×api_Node)))⊕(List (Int×api_Node))):=if (decide (s2.1 < (p_s.Now.Nodes.length:Int))) then ((idx p_s.Now.Nodes s2.1).bind fun x2=>(idx p_s.Since s2.1).bind fun x3=>if (decide (x3≤p_x.At)) then chk (InI64 x2.Ino∧s2.2.length < 140737488355328) (some (mset x2.Ino x2 s2.2)) else some s2.2).bind fun v5=>chk (InI64 (s2.1+1)) (some (.inl ((s2.1+1),v5))) else out (some s2.2)
theorem le_shotN22 n p_s p_x s2:Le0 (shotN26 n p_s p_x s2) (shot_had_B2 p_s p_x s2):=by
 unfold shotN26 shot_had_B2
 with_reducible repeat' first | refine B0 ?_ fun _=>?_ | apply I0 | apply K0 | apply O0 | exact R0
def shotN28 (n:Nat) (p_s:api_Shots) (p_x:api_Shot) (s2:Int×(List (Int×api_Node))):Option (List (Int×api_Node)):=loopN (shotN26 n p_s p_x) n s2
theorem le_shotN24 n p_s p_x s2:Le0 (shotN28 n p_s p_x s2) (shot_had_L2 p_s p_x s2):=Le0.loop (fun s=>le_shotN22 n p_s p_x s) n s2
def shot_had' (n:Nat) (p_s:api_Shots) (p_x:api_Shot):Option ((List api_Node)×Bool):=(shotN27 n p_s p_x (0,([]:List (Int×api_Node)))).bind fun v1=>(shotN28 n p_s p_x (0,v1)).bind fun v4=>(shot_had_1' n p_x.Ino ([]:List (Int×struct_struct)) v4).bind fun x4=>(sortTc shot_had_2 x4.2.2.2).bind fun x5=>some (x5,x4.1)
theorem le_shot_had [CmpOk shot_had_2] (n:Nat) (p_s:api_Shots) (p_x:api_Shot):Le0 (shot_had' n p_s p_x) (shot_had p_s p_x):=by
 unfold shot_had' shot_had
 with_reducible repeat' first | apply le_shotN23 | apply le_shotN24 | apply le_shotN14 | apply le_sortT | apply le_sortG | refine B0 ?_ fun _=>?_ | apply I0 | apply K0 | apply O0 | exact R0
def shot_At_B1' (n:Nat) (p_s:api_Shots) (p_id:Int) (s1:Int):Option ((Int)⊕(Int×(List api_Node)×Int)):=if (decide (s1 < (p_s.Taken.length:Int))) then (idx p_s.Taken s1).bind fun x1=>if (x1.Id == p_id) then (shot_had' n p_s x1).bind fun x2=>out (some (x1.Ino,x2.1,0)) else chk (InI64 (s1+1)) (some (.inl (s1+1))) else out (shot_At_J1 ())
theorem le_shotN1 [CmpOk shot_had_2] (n:Nat) (p_s:api_Shots) (p_id:Int) (s1:Int):Le0 (shot_At_B1' n p_s p_id s1) (shot_At_B1 p_s p_id s1):=by
 unfold shot_At_B1' shot_At_B1
 with_reducible repeat' first | apply le_shot_had | refine B0 ?_ fun _=>?_ | apply I0 | apply K0 | apply O0 | exact R0
def shot_At_L1' (n:Nat) (p_s:api_Shots) (p_id:Int) (s1:Int):Option (Int×(List api_Node)×Int):=loopN (shot_At_B1' n p_s p_id) n s1
theorem le_shotN2 [CmpOk shot_had_2] (n:Nat) (p_s:api_Shots) (p_id:Int) (s1:Int):Le0 (shot_At_L1' n p_s p_id s1) (shot_At_L1 p_s p_id s1):=Le0.loop (fun s=>le_shotN1 n p_s p_id s) n s1
def shot_At' (n:Nat) (p_s:api_Shots) (p_id:Int):Option (Int×(List api_Node)×Int):=shot_At_L1' n p_s p_id 0
theorem le_shot_At [CmpOk shot_had_2] (n:Nat) (p_s:api_Shots) (p_id:Int):Le0 (shot_At' n p_s p_id) (shot_At p_s p_id):=by
 unfold shot_At' shot_At
 with_reducible repeat' first | apply le_shotN2 | refine B0 ?_ fun _=>?_ | apply I0 | apply K0 | apply O0 | exact R0
def shotN44 (_n:Nat) (p_l:List api_Shot) (p_want_c0:Int) (s1:Int×(List api_Shot)):Option ((Int×(List api_Shot))⊕(List api_Shot)):=if (decide (s1.1 < (p_l.length:Int))) then ((idx p_l s1.1).bind fun x1=>(shot_Drop_1 x1 p_want_c0).bind fun x2=>if x2 then chk ((s1.2.length+([x1]).length) * 24≤140737488355328) (some (s1.2++[x1])) else some s1.2).bind fun v2=>chk (InI64 (s1.1+1)) (some (.inl ((s1.1+1),v2))) else out (some s1.2)
theorem le_shotN34 n p_l p_want_c0 s1:Le0 (shotN44 n p_l p_want_c0 s1) (shotN43 p_l p_want_c0 s1):=by
 unfold shotN44 shotN43
 with_reducible repeat' first | refine B0 ?_ fun _=>?_ | apply I0 | apply K0 | apply O0 | exact R0
def shotN46 (n:Nat) (p_l:List api_Shot) (p_want_c0:Int) (s1:Int×(List api_Shot)):Option (List api_Shot):=loopN (shotN44 n p_l p_want_c0) n s1
theorem le_shotN35 n p_l p_want_c0 s1:Le0 (shotN46 n p_l p_want_c0 s1) (shotN45 p_l p_want_c0 s1):=Le0.loop (fun s=>le_shotN34 n p_l p_want_c0 s) n s1
def shotN42 (n:Nat) (p_l:List api_Shot) (p_want_c0:Int):Option (List api_Shot):=(shotN46 n p_l p_want_c0 (0,[])).bind fun v1=>some v1
theorem le_shotN33 n p_l p_want_c0:Le0 (shotN42 n p_l p_want_c0) (shotN41 p_l p_want_c0):=by
 unfold shotN42 shotN41
 with_reducible repeat' first | apply le_shotN35 | refine B0 ?_ fun _=>?_ | apply I0 | apply K0 | apply O0 | exact R0
def shotN2 (n:Nat) (p_p:api_Past) (p_a1:List api_Shot):Option Bool:=(shot_seen' n p_a1 p_p.From p_p.Till).bind fun x1=>some x1
theorem le_shotN4 n p_p p_a1:Le0 (shotN2 n p_p p_a1) (shotN1 p_p p_a1):=by
 unfold shotN2 shotN1
 with_reducible repeat' first | apply le_shotN29 | refine B0 ?_ fun _=>?_ | apply I0 | apply K0 | apply O0 | exact R0
def shotN38 (n:Nat) (p_l:List api_Past) (p_b0:List api_Shot) (s1:Int×(List api_Past)):Option ((Int×(List api_Past))⊕(List api_Past)):=if (decide (s1.1 < (p_l.length:Int))) then ((idx p_l s1.1).bind fun x1=>(shotN2 n x1 p_b0).bind fun x2=>if x2 then chk ((s1.2.length+([x1]).length) * 96≤140737488355328) (some (s1.2++[x1])) else some s1.2).bind fun v2=>chk (InI64 (s1.1+1)) (some (.inl ((s1.1+1),v2))) else out (some s1.2)
theorem le_shotN31 n p_l p_b0 s1:Le0 (shotN38 n p_l p_b0 s1) (shotN37 p_l p_b0 s1):=by
 unfold shotN38 shotN37
 with_reducible repeat' first | apply le_shotN4 | refine B0 ?_ fun _=>?_ | apply I0 | apply K0 | apply O0 | exact R0
def shotN40 (n:Nat) (p_l:List api_Past) (p_b0:List api_Shot) (s1:Int×(List api_Past)):Option (List api_Past):=loopN (shotN38 n p_l p_b0) n s1
theorem le_shotN32 n p_l p_b0 s1:Le0 (shotN40 n p_l p_b0 s1) (shotN39 p_l p_b0 s1):=Le0.loop (fun s=>le_shotN31 n p_l p_b0 s) n s1
def shotN36 (n:Nat) (p_l:List api_Past) (p_b0:List api_Shot):Option (List api_Past):=(shotN40 n p_l p_b0 (0,[])).bind fun v1=>some v1
theorem le_shotN30 n p_l p_b0:Le0 (shotN36 n p_l p_b0) (shotN35 p_l p_b0):=by
 unfold shotN36 shotN35
 with_reducible repeat' first | apply le_shotN32 | refine B0 ?_ fun _=>?_ | apply I0 | apply K0 | apply O0 | exact R0
def shot_Drop' (n:Nat) (p_s:api_Shots) (p_id:Int):Option (api_Shots×Int):=(shotN42 n p_s.Taken p_id).bind fun x1=>if ((x1.length:Int) == (p_s.Taken.length:Int)) then some (p_s,100) else (shotN36 n p_s.Pasts x1).bind fun x3=>some ((⟨p_s.Now,p_s.Tick,p_s.Since,x3,x1,p_s.Next⟩:api_Shots),0)
theorem le_shotN3 n p_s p_id:Le0 (shot_Drop' n p_s p_id) (shot_Drop p_s p_id):=by
 unfold shot_Drop' shot_Drop
 with_reducible repeat' first | apply le_shotN33 | apply le_shotN30 | refine B0 ?_ fun _=>?_ | apply I0 | apply K0 | apply O0 | exact R0
def treeN21 (_n:Nat) (x1:api_Node) (s2:Int×(List (Int×Int))×(List (Int×Int))):Option ((Int×(List (Int×Int))×(List (Int×Int)))⊕((List (Int×Int))×(List (Int×Int)))):=if (decide (s2.1 < (x1.Ents.length:Int))) then (idx x1.Ents s2.1).bind fun x2=>(some ((mget x2.Ino s2.2.1).getD (0:Int))).bind fun x3=>chk (InI64 (x3+1)) (chk (InI64 x2.Ino∧s2.2.1.length < 140737488355328) (chk (InI64 x2.Ino∧s2.2.2.length < 140737488355328) (chk (InI64 (s2.1+1)) (some (.inl ((s2.1+1),(mset x2.Ino (x3+1) s2.2.1),(mset x2.Ino x1.Ino s2.2.2))))))) else out (some (s2.2.1,s2.2.2))
theorem le_treeN12 n x1 s2:Le0 (treeN21 n x1 s2) (treeN20 x1 s2):=by
 unfold treeN21 treeN20
 with_reducible repeat' first | refine B0 ?_ fun _=>?_ | apply I0 | apply K0 | apply O0 | exact R0
def treeN25 (n:Nat) (x1:api_Node) (s2:Int×(List (Int×Int))×(List (Int×Int))):Option ((List (Int×Int))×(List (Int×Int))):=loopN (treeN21 n x1) n s2
theorem le_treeN14 n x1 s2:Le0 (treeN25 n x1 s2) (treeN24 x1 s2):=Le0.loop (fun s=>le_treeN12 n x1 s) n s2
def treeN19 (n:Nat) (p_b0:tree_grove) (s1:Int×(List (Int×Int))×(List (Int×Int))):Option ((Int×(List (Int×Int))×(List (Int×Int)))⊕((List (Int×Int))×(List (Int×Int)))):=if (decide (s1.1 < (p_b0.Tree.Nodes.length:Int))) then ((idx p_b0.Tree.Nodes s1.1).bind fun x1=>treeN25 n x1 (0,s1.2.1,s1.2.2)).bind fun v2=>chk (InI64 (s1.1+1)) (some (.inl ((s1.1+1),v2.1,v2.2))) else out (some (s1.2.1,s1.2.2))
theorem le_treeN11 n p_b0 s1:Le0 (treeN19 n p_b0 s1) (treeN18 p_b0 s1):=by
 unfold treeN19 treeN18
 with_reducible repeat' first | apply le_treeN14 | refine B0 ?_ fun _=>?_ | apply I0 | apply K0 | apply O0 | exact R0
def treeN23 (n:Nat) (p_b0:tree_grove) (s1:Int×(List (Int×Int))×(List (Int×Int))):Option ((List (Int×Int))×(List (Int×Int))):=loopN (treeN19 n p_b0) n s1
theorem le_treeN13 n p_b0 s1:Le0 (treeN23 n p_b0 s1) (treeN22 p_b0 s1):=Le0.loop (fun s=>le_treeN11 n p_b0 s) n s1
def treeN17 (n:Nat) (p_b0:tree_grove):Option ((List (Int×Int))×(List (Int×Int))):=(treeN23 n p_b0 (0,([]:List (Int×Int)),([]:List (Int×Int)))).bind fun v1=>some (v1.1,v1.2)
theorem le_treeN10 n p_b0:Le0 (treeN17 n p_b0) (treeN16 p_b0):=by
 unfold treeN17 treeN16
 with_reducible repeat' first | apply le_treeN13 | refine B0 ?_ fun _=>?_ | apply I0 | apply K0 | apply O0 | exact R0
def nameN2 (_n:Nat) (p_s:List UInt8) (s1:Nat):Option ((Nat)⊕Bool):=if (decide (s1 < p_s.length)) then ((if (decide ((((decR p_s s1).1:Nat):Int) < 32)) then some true else some ((((decR p_s s1).1:Nat):Int) == 47)).bind fun c4=>some c4).bind fun v3=>if v3 then out (some false) else some (.inl (s1+(decR p_s s1).2)) else out (nameN3 ())
theorem le_nameN2 n p_s s1:Le0 (nameN2 n p_s s1) (nameN1 p_s s1):=by
 unfold nameN2 nameN1
 with_reducible repeat' first | refine B0 ?_ fun _=>?_ | apply I0 | apply K0 | apply O0 | exact R0
def nameN5 (n:Nat) (p_s:List UInt8) (s1:Nat):Option Bool:=loopN (nameN2 n p_s) n s1
theorem le_nameN3 n p_s s1:Le0 (nameN5 n p_s s1) (nameN4 p_s s1):=Le0.loop (fun s=>le_nameN2 n p_s s) n s1
def name_Right' (n:Nat) (p_s:List UInt8):Option Bool:=((if (p_s == ([])) then some true else some (decide ((p_s.length:Int) > 32))).bind fun c1=>(if c1 then some true else some (p_s == ([46]))).bind fun c2=>(if c2 then some true else some (p_s == ([46,46]))).bind fun c3=>some c3).bind fun v1=>if v1 then some false else nameN5 n p_s 0
theorem le_nameN1 n p_s:Le0 (name_Right' n p_s) (name_Right p_s):=by
 unfold name_Right' name_Right
 with_reducible repeat' first | apply le_nameN3 | refine B0 ?_ fun _=>?_ | apply I0 | apply K0 | apply O0 | exact R0
def treeN33 (n:Nat) (p_n:api_Node) (s1:Int×(List api_Node)×Int×Int×(List (Int×Bool))):Option ((Int×(List api_Node)×Int×Int×(List (Int×Bool)))⊕(Bool×tree_grove)):=if (decide (s1.1 < (p_n.Ents.length:Int))) then (idx p_n.Ents s1.1).bind fun x1=>(treeN14 n (⟨(⟨s1.2.1,s1.2.2.1,s1.2.2.2.1⟩:api_Tree)⟩:tree_grove) x1.Ino).bind fun x2=>((if (!x2.1.2) then some true else (name_Right' n x1.Name).bind fun x3=>some (!x3)).bind fun c1=>(if c1 then some true else some (decide (x1.Cookie < 1))).bind fun c2=>(if c2 then some true else some (decide (x1.Cookie≥x2.2.Tree.Cookie))).bind fun c3=>(if c3 then some true else (some ((mget x1.Cookie s1.2.2.2.2).getD (false:Bool))).bind fun x4=>some x4).bind fun c4=>(if c4 then some true else (if (decide (s1.1 > 0)) then chk (InI64 (s1.1 - 1)) ((idx p_n.Ents (s1.1 - 1)).bind fun x5=>some (!Op.bytesLess x5.Name x1.Name)) else some false).bind fun c5=>some c5).bind fun c6=>some c6).bind fun v2=>if v2 then out (some (false,x2.2)) else chk (InI64 x1.Cookie∧s1.2.2.2.2.length < 140737488355328) (chk (InI64 (s1.1+1)) (some (.inl ((s1.1+1),x2.2.Tree.Nodes,x2.2.Tree.Next,x2.2.Tree.Cookie,(mset x1.Cookie true s1.2.2.2.2))))) else out (treeN34 p_n (s1.2.1,s1.2.2.1,s1.2.2.2.1))
theorem le_treeN18 n p_n s1:Le0 (treeN33 n p_n s1) (treeN32 p_n s1):=by
 unfold treeN33 treeN32
 with_reducible repeat' first | apply le_treeN9 | apply le_nameN1 | refine B0 ?_ fun _=>?_ | apply I0 | apply K0 | apply O0 | exact R0
def treeN36 (n:Nat) (p_n:api_Node) (s1:Int×(List api_Node)×Int×Int×(List (Int×Bool))):Option (Bool×tree_grove):=loopN (treeN33 n p_n) n s1
theorem le_treeN19 n p_n s1:Le0 (treeN36 n p_n s1) (treeN35 p_n s1):=Le0.loop (fun s=>le_treeN18 n p_n s) n s1
def treeN31 (n:Nat) (self:tree_grove) (p_n:api_Node):Option (Bool×tree_grove):=treeN36 n p_n (0,self.Tree.Nodes,self.Tree.Next,self.Tree.Cookie,([]:List (Int×Bool)))
theorem le_treeN17 n self p_n:Le0 (treeN31 n self p_n) (treeN30 self p_n):=by
 unfold treeN31 treeN30
 with_reducible repeat' first | apply le_treeN19 | refine B0 ?_ fun _=>?_ | apply I0 | apply K0 | apply O0 | exact R0
def treeN40 (n:Nat) (s1:Int×(List api_Node)×Int×Int×(List Int)):Option ((Int×(List api_Node)×Int×Int×(List Int))⊕((List Int)×tree_grove)):=((if (s1.1 != 1) then some (decide ((s1.2.2.2.2.length:Int)≤(s1.2.1.length:Int))) else some false).bind fun c1=>some c1).bind fun v2=>if v2 then (treeN29 n (⟨(⟨s1.2.1,s1.2.2.1,s1.2.2.2.1⟩:api_Tree)⟩:tree_grove) s1.1).bind fun x1=>((if (!x1.1.2) then some true else some (x1.1.1.Kind != 2)).bind fun c2=>some c2).bind fun v3=>if v3 then out (some (s1.2.2.2.2,x1.2)) else chk ((s1.2.2.2.2.length+([x1.1.1.Up]).length) * 8≤140737488355328) (some (.inl (x1.1.1.Up,x1.2.Tree.Nodes,x1.2.Tree.Next,x1.2.Tree.Cookie,(s1.2.2.2.2++[x1.1.1.Up])))) else out (treeN41 (s1.2.2.2.2,s1.2.1,s1.2.2.1,s1.2.2.2.1))
theorem le_treeN21 n s1:Le0 (treeN40 n s1) (treeN39 s1):=by
 unfold treeN40 treeN39
 with_reducible repeat' first | apply le_treeN16 | refine B0 ?_ fun _=>?_ | apply I0 | apply K0 | apply O0 | exact R0
def treeN43 (n:Nat) (s1:Int×(List api_Node)×Int×Int×(List Int)):Option ((List Int)×tree_grove):=loopN (treeN40 n ) n s1
theorem le_treeN22 n s1:Le0 (treeN43 n s1) (treeN42 s1):=Le0.loop (fun s=>le_treeN21 n  s) n s1
def treeN38 (n:Nat) (self:tree_grove) (p_ino:Int):Option ((List Int)×tree_grove):=treeN43 n (p_ino,self.Tree.Nodes,self.Tree.Next,self.Tree.Cookie,[p_ino])
theorem le_treeN20 n self p_ino:Le0 (treeN38 n self p_ino) (treeN37 self p_ino):=by
 unfold treeN38 treeN37
 with_reducible repeat' first | apply le_treeN22 | refine B0 ?_ fun _=>?_ | apply I0 | apply K0 | apply O0 | exact R0
def treeN27 (n:Nat) (self:tree_grove) (p_n:api_Node) (p_many:Int) (p_in:Int):Option (Bool×tree_grove):=if (p_n.Kind == 1) then ((if ((p_n.Ents.length:Int) == 0) then some (p_n.Up == 0) else some false).bind fun c1=>(if c1 then some (decide ((p_n.Data.length:Int)≤4096)) else some false).bind fun c2=>(if c2 then some (p_n.Links == p_many) else some false).bind fun c3=>some c3).bind fun v1=>some (v1,self) else ((if (p_n.Kind != 2) then some true else some (decide ((p_n.Data.length:Int) > 0))).bind fun c4=>(if c4 then some (true,self.Tree.Nodes,self.Tree.Next,self.Tree.Cookie) else (treeN31 n self p_n).bind fun x1=>some ((!x1.1),x1.2.Tree.Nodes,x1.2.Tree.Next,x1.2.Tree.Cookie)).bind fun (c5:Bool×(List api_Node)×Int×Int)=>some (c5.1,c5.2.1,c5.2.2.1,c5.2.2.2)).bind fun v2=>if v2.1 then some (false,(⟨(⟨v2.2.1,v2.2.2.1,v2.2.2.2⟩:api_Tree)⟩:tree_grove)) else if (p_n.Ino == 1) then ((if (p_n.Up == 1) then some (p_n.Links == 0) else some false).bind fun c6=>(if c6 then some (p_many == 0) else some false).bind fun c7=>some c7).bind fun v3=>some (v3,(⟨(⟨v2.2.1,v2.2.2.1,v2.2.2.2⟩:api_Tree)⟩:tree_grove)) else ((if (p_many != 1) then some true else some (p_in != p_n.Up)).bind fun c8=>(if c8 then some true else some (p_n.Links != 1)).bind fun c9=>some c9).bind fun v4=>if v4 then some (false,(⟨(⟨v2.2.1,v2.2.2.1,v2.2.2.2⟩:api_Tree)⟩:tree_grove)) else (treeN38 n (⟨(⟨v2.2.1,v2.2.2.1,v2.2.2.2⟩:api_Tree)⟩:tree_grove) p_n.Ino).bind fun x2=>chk (InI64 ((x2.1.length:Int) - 1)) (((idx x2.1 ((x2.1.length:Int) - 1)).bind fun x3=>(if (x3 == 1) then (if (decide (((x2.1.length:Int) - 1) < 12)) then some true else (if (((x2.1.length:Int) - 1) == 12) then some ((p_n.Ents.length:Int) == 0) else some false).bind fun c10=>some c10).bind fun c11=>some c11 else some false).bind fun c12=>some c12).bind fun v5=>some (v5,x2.2))
theorem le_treeN15 n self p_n p_many p_in:Le0 (treeN27 n self p_n p_many p_in) (treeN26 self p_n p_many p_in):=by
 unfold treeN27 treeN26
 with_reducible repeat' first | apply le_treeN17 | apply le_treeN20 | refine B0 ?_ fun _=>?_ | apply I0 | apply K0 | apply O0 | exact R0
def treeN4 (n:Nat) (p_t:api_Tree) (x5:(List (Int×Int))×(List (Int×Int))) (s2:Int×(List api_Node)×Int×Int):Option ((Int×(List api_Node)×Int×Int)⊕Bool):=if (decide (s2.1 < (((⟨p_t⟩:tree_grove).Tree.Nodes).length:Int))) then (idx ((⟨p_t⟩:tree_grove).Tree.Nodes) s2.1).bind fun x6=>(some ((mget x6.Ino x5.1).getD (0:Int))).bind fun x7=>(some ((mget x6.Ino x5.2).getD (0:Int))).bind fun x8=>(treeN27 n (⟨(⟨s2.2.1,s2.2.2.1,s2.2.2.2⟩:api_Tree)⟩:tree_grove) x6 x7 x8).bind fun x9=>if (!x9.1) then out (some false) else chk (InI64 (s2.1+1)) (some (.inl ((s2.1+1),x9.2.Tree.Nodes,x9.2.Tree.Next,x9.2.Tree.Cookie))) else out (treeN7 ())
theorem le_treeN3 n p_t x5 s2:Le0 (treeN4 n p_t x5 s2) (treeN3 p_t x5 s2):=by
 unfold treeN4 treeN3
 with_reducible repeat' first | apply le_treeN15 | refine B0 ?_ fun _=>?_ | apply I0 | apply K0 | apply O0 | exact R0
def treeN11 (n:Nat) (p_t:api_Tree) (x5:(List (Int×Int))×(List (Int×Int))) (s2:Int×(List api_Node)×Int×Int):Option Bool:=loopN (treeN4 n p_t x5) n s2
theorem le_treeN6 n p_t x5 s2:Le0 (treeN11 n p_t x5 s2) (treeN10 p_t x5 s2):=Le0.loop (fun s=>le_treeN3 n p_t x5 s) n s2
def treeN6 (n:Nat) (p_t:api_Tree) (_v2:Unit):Option Bool:=(treeN17 n (⟨p_t⟩:tree_grove)).bind fun x5=>treeN11 n p_t x5 (0,(⟨p_t⟩:tree_grove).Tree.Nodes,(⟨p_t⟩:tree_grove).Tree.Next,(⟨p_t⟩:tree_grove).Tree.Cookie)
theorem le_treeN4 n p_t (_v2:Unit):Le0 (treeN6 n p_t _v2) (treeN5 p_t _v2):=by
 unfold treeN6 treeN5
 with_reducible repeat' first | apply le_treeN10 | apply le_treeN6 | refine B0 ?_ fun _=>?_ | apply I0 | apply K0 | apply O0 | exact R0
def treeN2 (n:Nat) (p_t:api_Tree) (s1:Int):Option ((Int)⊕Bool):=if (decide (s1 < (p_t.Nodes.length:Int))) then (idx p_t.Nodes s1).bind fun x3=>((if (decide (s1 > 0)) then chk (InI64 (s1 - 1)) ((idx p_t.Nodes (s1 - 1)).bind fun x4=>some (decide (x3.Ino≤x4.Ino))) else some false).bind fun c7=>(if c7 then some true else some (decide (x3.Ino≥p_t.Next))).bind fun c8=>(if c8 then some true else some (decide ((x3.Ents.length:Int) > 64))).bind fun c9=>some c9).bind fun v3=>if v3 then out (some false) else chk (InI64 (s1+1)) (some (.inl (s1+1))) else out (treeN6 n p_t ())
theorem le_treeN2 n p_t s1:Le0 (treeN2 n p_t s1) (treeN1 p_t s1):=by
 unfold treeN2 treeN1
 with_reducible repeat' first | apply le_treeN4 | refine B0 ?_ fun _=>?_ | apply I0 | apply K0 | apply O0 | exact R0
def treeN9 (n:Nat) (p_t:api_Tree) (s1:Int):Option Bool:=loopN (treeN2 n p_t) n s1
theorem le_treeN5 n p_t s1:Le0 (treeN9 n p_t s1) (treeN8 p_t s1):=Le0.loop (fun s=>le_treeN2 n p_t s) n s1
def tree_Right' (n:Nat) (p_t:api_Tree):Option Bool:=((if (decide ((p_t.Nodes.length:Int) < 1)) then some true else some (decide ((p_t.Nodes.length:Int) > 200))).bind fun c1=>(if c1 then some true else (idx p_t.Nodes 0).bind fun x1=>some (x1.Ino != 1)).bind fun c2=>(if c2 then some true else (idx p_t.Nodes 0).bind fun x2=>some (x2.Kind != 2)).bind fun c3=>(if c3 then some true else some (decide (p_t.Next > 1099511627776))).bind fun c4=>(if c4 then some true else some (decide (p_t.Cookie < 1))).bind fun c5=>(if c5 then some true else some (decide (p_t.Cookie > 1099511627776))).bind fun c6=>some c6).bind fun v1=>if v1 then some false else treeN9 n p_t 0
theorem le_treeN1 n p_t:Le0 (tree_Right' n p_t) (tree_Right p_t):=by
 unfold tree_Right' tree_Right
 with_reducible repeat' first | apply le_treeN5 | refine B0 ?_ fun _=>?_ | apply I0 | apply K0 | apply O0 | exact R0
def slicesN54 (_n:Nat) (p_s:List Int) (p_f_c0_0:List api_Node) (p_f_c0_1:Int) (p_f_c0_2:Int) (p_f_c0_3:Int) (p_f_c0_4:List Int) (p_f_c0_5:List api_Past) (p_f_c0_6:List api_Shot) (p_f_c0_7:Int) (s1:Int):Option ((Int)⊕Int):=if (decide (s1 < (p_s.length:Int))) then (idx p_s s1).bind fun x1=>(shotN7 x1 p_f_c0_0 p_f_c0_1 p_f_c0_2 p_f_c0_3 p_f_c0_4 p_f_c0_5 p_f_c0_6 p_f_c0_7).bind fun x2=>if x2 then out (some s1) else chk (InI64 (s1+1)) (some (.inl (s1+1))) else out (slicesN55 ())
theorem le_slicesN25 n p_s p_f_c0_0 p_f_c0_1 p_f_c0_2 p_f_c0_3 p_f_c0_4 p_f_c0_5 p_f_c0_6 p_f_c0_7 s1:Le0 (slicesN54 n p_s p_f_c0_0 p_f_c0_1 p_f_c0_2 p_f_c0_3 p_f_c0_4 p_f_c0_5 p_f_c0_6 p_f_c0_7 s1) (slicesN53 p_s p_f_c0_0 p_f_c0_1 p_f_c0_2 p_f_c0_3 p_f_c0_4 p_f_c0_5 p_f_c0_6 p_f_c0_7 s1):=by
 unfold slicesN54 slicesN53
 with_reducible repeat' first | refine B0 ?_ fun _=>?_ | apply I0 | apply K0 | apply O0 | exact R0
def slicesN57 (n:Nat) (p_s:List Int) (p_f_c0_0:List api_Node) (p_f_c0_1:Int) (p_f_c0_2:Int) (p_f_c0_3:Int) (p_f_c0_4:List Int) (p_f_c0_5:List api_Past) (p_f_c0_6:List api_Shot) (p_f_c0_7:Int) (s1:Int):Option Int:=loopN (slicesN54 n p_s p_f_c0_0 p_f_c0_1 p_f_c0_2 p_f_c0_3 p_f_c0_4 p_f_c0_5 p_f_c0_6 p_f_c0_7) n s1
theorem le_slicesN26 n p_s p_f_c0_0 p_f_c0_1 p_f_c0_2 p_f_c0_3 p_f_c0_4 p_f_c0_5 p_f_c0_6 p_f_c0_7 s1:Le0 (slicesN57 n p_s p_f_c0_0 p_f_c0_1 p_f_c0_2 p_f_c0_3 p_f_c0_4 p_f_c0_5 p_f_c0_6 p_f_c0_7 s1) (slicesN56 p_s p_f_c0_0 p_f_c0_1 p_f_c0_2 p_f_c0_3 p_f_c0_4 p_f_c0_5 p_f_c0_6 p_f_c0_7 s1):=Le0.loop (fun s=>le_slicesN25 n p_s p_f_c0_0 p_f_c0_1 p_f_c0_2 p_f_c0_3 p_f_c0_4 p_f_c0_5 p_f_c0_6 p_f_c0_7 s) n s1
def slicesN52 (n:Nat) (p_s:List Int) (p_f_c0_0:List api_Node) (p_f_c0_1:Int) (p_f_c0_2:Int) (p_f_c0_3:Int) (p_f_c0_4:List Int) (p_f_c0_5:List api_Past) (p_f_c0_6:List api_Shot) (p_f_c0_7:Int):Option Int:=slicesN57 n p_s p_f_c0_0 p_f_c0_1 p_f_c0_2 p_f_c0_3 p_f_c0_4 p_f_c0_5 p_f_c0_6 p_f_c0_7 0
theorem le_slicesN24 n p_s p_f_c0_0 p_f_c0_1 p_f_c0_2 p_f_c0_3 p_f_c0_4 p_f_c0_5 p_f_c0_6 p_f_c0_7:Le0 (slicesN52 n p_s p_f_c0_0 p_f_c0_1 p_f_c0_2 p_f_c0_3 p_f_c0_4 p_f_c0_5 p_f_c0_6 p_f_c0_7) (slicesN51 p_s p_f_c0_0 p_f_c0_1 p_f_c0_2 p_f_c0_3 p_f_c0_4 p_f_c0_5 p_f_c0_6 p_f_c0_7):=by
 unfold slicesN52 slicesN51
 with_reducible repeat' first | apply le_slicesN26 | refine B0 ?_ fun _=>?_ | apply I0 | apply K0 | apply O0 | exact R0
def slicesN22 (n:Nat) (p_s:List Int) (p_f_c0:api_Shots):Option Bool:=(slicesN52 n p_s p_f_c0.Now.Nodes p_f_c0.Now.Next p_f_c0.Now.Cookie p_f_c0.Tick p_f_c0.Since p_f_c0.Pasts p_f_c0.Taken p_f_c0.Next).bind fun x1=>some (decide (x1≥0))
theorem le_slicesN11 n p_s p_f_c0:Le0 (slicesN22 n p_s p_f_c0) (slicesN21 p_s p_f_c0):=by
 unfold slicesN22 slicesN21
 with_reducible repeat' first | apply le_slicesN24 | refine B0 ?_ fun _=>?_ | apply I0 | apply K0 | apply O0 | exact R0
def shotN48 (_n:Nat) (p_s:api_Shots) (s1:Int):Option ((Int)⊕Bool):=if (decide (s1 < (p_s.Taken.length:Int))) then (idx p_s.Taken s1).bind fun x1=>((if (decide (x1.Id < 1)) then some true else some (decide (x1.Id≥p_s.Next))).bind fun c1=>(if c1 then some true else some (decide (x1.At < 0))).bind fun c2=>(if c2 then some true else some (decide (x1.At > p_s.Tick))).bind fun c3=>some c3).bind fun v2=>if v2 then out (some false) else ((if (decide (s1 > 0)) then chk (InI64 (s1 - 1)) ((idx p_s.Taken (s1 - 1)).bind fun x2=>(if (decide (x2.Id≥x1.Id)) then some true else chk (InI64 (s1 - 1)) ((idx p_s.Taken (s1 - 1)).bind fun x3=>some (decide (x3.At > x1.At)))).bind fun c4=>some c4) else some false).bind fun c5=>some c5).bind fun v3=>if v3 then out (some false) else chk (InI64 (s1+1)) (some (.inl (s1+1))) else out (shotN49 p_s ())
theorem le_shotN37 n p_s s1:Le0 (shotN48 n p_s s1) (shotN47 p_s s1):=by
 unfold shotN48 shotN47
 with_reducible repeat' first | refine B0 ?_ fun _=>?_ | apply I0 | apply K0 | apply O0 | exact R0
def shotN51 (n:Nat) (p_s:api_Shots) (s1:Int):Option Bool:=loopN (shotN48 n p_s) n s1
theorem le_shotN38 n p_s s1:Le0 (shotN51 n p_s s1) (shotN50 p_s s1):=Le0.loop (fun s=>le_shotN37 n p_s s) n s1
def shot_taken' (n:Nat) (p_s:api_Shots):Option Bool:=shotN51 n p_s 0
theorem le_shotN36 n p_s:Le0 (shot_taken' n p_s) (shot_taken p_s):=by
 unfold shot_taken' shot_taken
 with_reducible repeat' first | apply le_shotN38 | refine B0 ?_ fun _=>?_ | apply I0 | apply K0 | apply O0 | exact R0
def cmpN3 (_n:Nat) (p_vals:List Int) (s1:Int):Option ((Int)⊕Int):=if (decide (s1 < (p_vals.length:Int))) then (idx p_vals s1).bind fun x1=>if (x1 != 0) then out (some x1) else chk (InI64 (s1+1)) (some (.inl (s1+1))) else out (cmpN4 ())
theorem le_cmpN2 n p_vals s1:Le0 (cmpN3 n p_vals s1) (cmpN2 p_vals s1):=by
 unfold cmpN3 cmpN2
 with_reducible repeat' first | refine B0 ?_ fun _=>?_ | apply I0 | apply K0 | apply O0 | exact R0
def cmpN6 (n:Nat) (p_vals:List Int) (s1:Int):Option Int:=loopN (cmpN3 n p_vals) n s1
theorem le_cmpN3 n p_vals s1:Le0 (cmpN6 n p_vals s1) (cmpN5 p_vals s1):=Le0.loop (fun s=>le_cmpN2 n p_vals s) n s1
def cmp_Or_int' (n:Nat) (p_vals:List Int):Option Int:=cmpN6 n p_vals 0
theorem le_cmpN1 n p_vals:Le0 (cmp_Or_int' n p_vals) (cmp_Or_int p_vals):=by
 unfold cmp_Or_int' cmp_Or_int
 with_reducible repeat' first | apply le_cmpN3 | refine B0 ?_ fun _=>?_ | apply I0 | apply K0 | apply O0 | exact R0
def slicesN40 (_n:Nat) (p_s:List api_Past) (p_f_c0_0:Int) (p_f_c0_1:Int) (p_f_c0_2:Int) (p_f_c0_3:Int) (p_f_c0_4:Int) (p_f_c0_5:List UInt8) (p_f_c0_6:List api_Ent) (p_f_c0_7:Int) (s1:Int):Option ((Int)⊕Int):=if (decide (s1 < (p_s.length:Int))) then (idx p_s s1).bind fun x1=>(shotN29 x1 p_f_c0_0 p_f_c0_1 p_f_c0_2 p_f_c0_3 p_f_c0_4 p_f_c0_5 p_f_c0_6 p_f_c0_7).bind fun x2=>if x2 then out (some s1) else chk (InI64 (s1+1)) (some (.inl (s1+1))) else out (slicesN41 ())
theorem le_slicesN19 n p_s p_f_c0_0 p_f_c0_1 p_f_c0_2 p_f_c0_3 p_f_c0_4 p_f_c0_5 p_f_c0_6 p_f_c0_7 s1:Le0 (slicesN40 n p_s p_f_c0_0 p_f_c0_1 p_f_c0_2 p_f_c0_3 p_f_c0_4 p_f_c0_5 p_f_c0_6 p_f_c0_7 s1) (slicesN39 p_s p_f_c0_0 p_f_c0_1 p_f_c0_2 p_f_c0_3 p_f_c0_4 p_f_c0_5 p_f_c0_6 p_f_c0_7 s1):=by
 unfold slicesN40 slicesN39
 with_reducible repeat' first | refine B0 ?_ fun _=>?_ | apply I0 | apply K0 | apply O0 | exact R0
def slicesN43 (n:Nat) (p_s:List api_Past) (p_f_c0_0:Int) (p_f_c0_1:Int) (p_f_c0_2:Int) (p_f_c0_3:Int) (p_f_c0_4:Int) (p_f_c0_5:List UInt8) (p_f_c0_6:List api_Ent) (p_f_c0_7:Int) (s1:Int):Option Int:=loopN (slicesN40 n p_s p_f_c0_0 p_f_c0_1 p_f_c0_2 p_f_c0_3 p_f_c0_4 p_f_c0_5 p_f_c0_6 p_f_c0_7) n s1
theorem le_slicesN20 n p_s p_f_c0_0 p_f_c0_1 p_f_c0_2 p_f_c0_3 p_f_c0_4 p_f_c0_5 p_f_c0_6 p_f_c0_7 s1:Le0 (slicesN43 n p_s p_f_c0_0 p_f_c0_1 p_f_c0_2 p_f_c0_3 p_f_c0_4 p_f_c0_5 p_f_c0_6 p_f_c0_7 s1) (slicesN42 p_s p_f_c0_0 p_f_c0_1 p_f_c0_2 p_f_c0_3 p_f_c0_4 p_f_c0_5 p_f_c0_6 p_f_c0_7 s1):=Le0.loop (fun s=>le_slicesN19 n p_s p_f_c0_0 p_f_c0_1 p_f_c0_2 p_f_c0_3 p_f_c0_4 p_f_c0_5 p_f_c0_6 p_f_c0_7 s) n s1
def slicesN38 (n:Nat) (p_s:List api_Past) (p_f_c0_0:Int) (p_f_c0_1:Int) (p_f_c0_2:Int) (p_f_c0_3:Int) (p_f_c0_4:Int) (p_f_c0_5:List UInt8) (p_f_c0_6:List api_Ent) (p_f_c0_7:Int):Option Int:=slicesN43 n p_s p_f_c0_0 p_f_c0_1 p_f_c0_2 p_f_c0_3 p_f_c0_4 p_f_c0_5 p_f_c0_6 p_f_c0_7 0
theorem le_slicesN18 n p_s p_f_c0_0 p_f_c0_1 p_f_c0_2 p_f_c0_3 p_f_c0_4 p_f_c0_5 p_f_c0_6 p_f_c0_7:Le0 (slicesN38 n p_s p_f_c0_0 p_f_c0_1 p_f_c0_2 p_f_c0_3 p_f_c0_4 p_f_c0_5 p_f_c0_6 p_f_c0_7) (slicesN37 p_s p_f_c0_0 p_f_c0_1 p_f_c0_2 p_f_c0_3 p_f_c0_4 p_f_c0_5 p_f_c0_6 p_f_c0_7):=by
 unfold slicesN38 slicesN37
 with_reducible repeat' first | apply le_slicesN20 | refine B0 ?_ fun _=>?_ | apply I0 | apply K0 | apply O0 | exact R0
def slicesN18 (n:Nat) (p_s:List api_Past) (p_f_c0:api_Past):Option Bool:=(slicesN38 n p_s p_f_c0.From p_f_c0.Till p_f_c0.Node.Ino p_f_c0.Node.Kind p_f_c0.Node.Links p_f_c0.Node.Data p_f_c0.Node.Ents p_f_c0.Node.Up).bind fun x1=>some (decide (x1≥0))
theorem le_slicesN9 n p_s p_f_c0:Le0 (slicesN18 n p_s p_f_c0) (slicesN17 p_s p_f_c0):=by
 unfold slicesN18 slicesN17
 with_reducible repeat' first | apply le_slicesN18 | refine B0 ?_ fun _=>?_ | apply I0 | apply K0 | apply O0 | exact R0
def shotN31 (n:Nat) (p_s:api_Shots) (s1:Int):Option ((Int)⊕Bool):=if (decide (s1 < (p_s.Pasts.length:Int))) then (idx p_s.Pasts s1).bind fun x1=>((if (decide (x1.From < 0)) then some true else some (decide (x1.Till≤x1.From))).bind fun c1=>(if c1 then some true else some (decide (x1.Till > p_s.Tick))).bind fun c2=>(if c2 then some true else (shot_seen' n p_s.Taken x1.From x1.Till).bind fun x2=>some (!x2)).bind fun c3=>some c3).bind fun v2=>if v2 then out (some false) else ((if (decide (s1 > 0)) then chk (InI64 (s1 - 1)) ((idx p_s.Pasts (s1 - 1)).bind fun x3=>(cmpN1 x3.Till x1.Till).bind fun x4=>chk (InI64 (s1 - 1)) ((idx p_s.Pasts (s1 - 1)).bind fun x5=>(cmpN1 x5.Node.Ino x1.Node.Ino).bind fun x6=>(cmp_Or_int' n ([x4,x6])).bind fun x7=>some (decide (x7≥0)))) else some false).bind fun c4=>some c4).bind fun v3=>if v3 then out (some false) else chk ((0:Int)≤s1∧s1≤(p_s.Pasts.length:Int)) ((slicesN18 n (p_s.Pasts.take s1.toNat) x1).bind fun x8=>if x8 then out (some false) else (shot_find' n p_s.Now.Nodes x1.Node.Ino).bind fun x9=>((if (decide (x9≥0)) then (idx p_s.Since x9).bind fun x10=>some (decide (x10 < x1.Till)) else some false).bind fun c5=>some c5).bind fun v4=>if v4 then out (some false) else chk (InI64 (s1+1)) (some (.inl (s1+1)))) else out (shotN32 ())
theorem le_shotN27 n p_s s1:Le0 (shotN31 n p_s s1) (shotN30 p_s s1):=by
 unfold shotN31 shotN30
 with_reducible repeat' first | apply le_shotN29 | apply le_cmpN1 | apply le_slicesN9 | apply le_shotN13 | refine B0 ?_ fun _=>?_ | apply I0 | apply K0 | apply O0 | exact R0
def shotN34 (n:Nat) (p_s:api_Shots) (s1:Int):Option Bool:=loopN (shotN31 n p_s) n s1
theorem le_shotN28 n p_s s1:Le0 (shotN34 n p_s s1) (shotN33 p_s s1):=Le0.loop (fun s=>le_shotN27 n p_s s) n s1
def shot_pasts' (n:Nat) (p_s:api_Shots):Option Bool:=shotN34 n p_s 0
theorem le_shotN26 n p_s:Le0 (shot_pasts' n p_s) (shot_pasts p_s):=by
 unfold shot_pasts' shot_pasts
 with_reducible repeat' first | apply le_shotN28 | refine B0 ?_ fun _=>?_ | apply I0 | apply K0 | apply O0 | exact R0
def shotN9 (n:Nat) (p_s:api_Shots) (s1:Int):Option ((Int)⊕Bool):=if (decide (s1 < (p_s.Taken.length:Int))) then (idx p_s.Taken s1).bind fun x5=>(shot_had' n p_s x5).bind fun x6=>(shot_find' n x6.1 x5.Ino).bind fun x7=>((if (!x6.2) then some true else some (decide (x7 < 0))).bind fun c8=>(if c8 then some true else (idx x6.1 x7).bind fun x8=>some (x8.Kind != 2)).bind fun c9=>some c9).bind fun v4=>if v4 then out (some false) else chk (InI64 (s1+1)) (some (.inl (s1+1))) else out (shotN10 ())
theorem le_shotN10 [CmpOk shot_had_2] (n:Nat) (p_s:api_Shots) (s1:Int):Le0 (shotN9 n p_s s1) (shotN8 p_s s1):=by
 unfold shotN9 shotN8
 with_reducible repeat' first | apply le_shot_had | apply le_shotN13 | refine B0 ?_ fun _=>?_ | apply I0 | apply K0 | apply O0 | exact R0
def shotN12 (n:Nat) (p_s:api_Shots) (s1:Int):Option Bool:=loopN (shotN9 n p_s) n s1
theorem le_shotN11 [CmpOk shot_had_2] (n:Nat) (p_s:api_Shots) (s1:Int):Le0 (shotN12 n p_s s1) (shotN11 p_s s1):=Le0.loop (fun s=>le_shotN10 n p_s s) n s1
def shot_Right' (n:Nat) (p_s:api_Shots):Option Bool:=((tree_Right' n p_s.Now).bind fun x1=>(if (!x1) then some true else some (decide (p_s.Tick < 0))).bind fun c1=>(if c1 then some true else some (decide (p_s.Tick > 1099511627776))).bind fun c2=>(if c2 then some true else some ((p_s.Since.length:Int) != (p_s.Now.Nodes.length:Int))).bind fun c3=>(if c3 then some true else some (decide (p_s.Next < 1))).bind fun c4=>(if c4 then some true else some (decide (p_s.Next > 1099511627776))).bind fun c5=>some c5).bind fun v1=>if v1 then some false else ((slicesN22 n p_s.Since p_s).bind fun x2=>(if x2 then some true else (shot_taken' n p_s).bind fun x3=>some (!x3)).bind fun c6=>(if c6 then some true else (shot_pasts' n p_s).bind fun x4=>some (!x4)).bind fun c7=>some c7).bind fun v2=>if v2 then some false else shotN12 n p_s 0
theorem le_shotN9 [CmpOk shot_had_2] (n:Nat) (p_s:api_Shots):Le0 (shot_Right' n p_s) (shot_Right p_s):=by
 unfold shot_Right' shot_Right
 with_reducible repeat' first | apply le_treeN1 | apply le_slicesN11 | apply le_shotN36 | apply le_shotN26 | apply le_shotN11 | refine B0 ?_ fun _=>?_ | apply I0 | apply K0 | apply O0 | exact R0
def law10_head' (n:Nat):Option Bool:=(ref07_New).bind fun x1=>(shot_New x1).bind fun x2=>(shot_Take' n x2 1).bind fun x3=>(ref07_New).bind fun x4=>(ref07_Add' n x4 1 ([102]) 1).bind fun x5=>(shot_Put' n x3.1 x5.1).bind fun x6=>(shot_At' n x6 x3.2.1).bind fun x7=>(shot_Take' n x6 x5.2.1).bind fun x8=>(shot_Take' n x6 9).bind fun x9=>(shot_Drop' n x6 x3.2.1).bind fun x10=>(shot_Drop' n x10.1 x3.2.1).bind fun x11=>(shot_At' n x10.1 x3.2.1).bind fun x12=>((if ((x7.2.1.length:Int) != 1) then some true else some ((x6.Pasts.length:Int) != 1)).bind fun c1=>(if c1 then some true else some ((x6.Since.length:Int) != 2)).bind fun c2=>some c2).bind fun v1=>if v1 then some false else ((if (x3.2.1 == 1) then some (x3.2.2 == 0) else some false).bind fun c3=>(if c3 then some (x7.1 == 1) else some false).bind fun c4=>(if c4 then some (x7.2.2 == 0) else some false).bind fun c5=>(if c5 then (idx x7.2.1 0).bind fun x13=>some ((x13.Ents.length:Int) == 0) else some false).bind fun c6=>(if c6 then some (x6.Tick == 1) else some false).bind fun c7=>(if c7 then (idx x6.Since 0).bind fun x14=>some (x14 == 1) else some false).bind fun c8=>(if c8 then (idx x6.Pasts 0).bind fun x15=>some (x15.From == 0) else some false).bind fun c9=>(if c9 then (idx x6.Pasts 0).bind fun x16=>some (x16.Till == 1) else some false).bind fun c10=>(if c10 then some (x8.2.2 == 73) else some false).bind fun c11=>(if c11 then some (x9.2.2 == 70) else some false).bind fun c12=>(if c12 then some (x10.2 == 0) else some false).bind fun c13=>(if c13 then some ((x10.1.Pasts.length:Int) == 0) else some false).bind fun c14=>(if c14 then some ((x10.1.Taken.length:Int) == 0) else some false).bind fun c15=>(if c15 then some (x11.2 == 100) else some false).bind fun c16=>(if c16 then some (x12.2.2 == 100) else some false).bind fun c17=>(if c17 then (shot_Right' n x6).bind fun x17=>some x17 else some false).bind fun c18=>(if c18 then (shot_Right' n (⟨(⟨[],0,0⟩:api_Tree),0,[],[],[],0⟩:api_Shots)).bind fun x18=>some (!x18) else some false).bind fun c19=>(if c19 then some (x6.Next == 2) else some false).bind fun c20=>some c20).bind fun v2=>some v2
theorem le_law10N1 [CmpOk shot_had_2] (n:Nat):Le0 (law10_head' n) law10_head:=by
 unfold law10_head' law10_head
 with_reducible repeat' first | apply le_shotN12 | apply le_ref07N1 | apply le_shot_Put | apply le_shot_At | apply le_shotN3 | apply le_shotN9 | refine B0 ?_ fun _=>?_ | apply I0 | apply K0 | apply O0 | exact R0
end
end Go.Proofs
