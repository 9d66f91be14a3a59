/- Shots, plain: none spare, apart, and quiet. No condition. -/
import Derived.Test.YthkdflbnmbnbaaaGreatXShotApartP10i
namespace Go.Proofs
set_option linter.all false
open Go Go.Cat
set_option linter.all false
def shS (s:api_Shots) (T:List api_Shot):api_Shots:=⟨s.Now,s.Tick,s.Since,keepP s.Pasts T,T,s.Next⟩
theorem keep_keep {P:List api_Past} {T U:List api_Shot} (h:∀x,x∈U→x∈T):keepP (keepP P T) U=keepP P U:=by
 unfold keepP
 rw [List.filter_filter]
 refine List.filter_congr fun p _=>?_
 cases e:seesB U p.From p.Till with
 | false=>rfl
 | true=>rw [sees_mono e h]; rfl
theorem filt_len {α:Type} {p:α→Bool} {l:List α} (h:(l.filter p).length=l.length):l.filter p=l:=List.Sublist.eq_of_length List.filter_sublist h
theorem drop_sh1 (s:api_Shots) (T:List api_Shot) (i:Int):(dropS (shS s T) i).1=shS s (T.filter fun x=>x.Id != i):=by
 unfold dropS dropT
 by_cases h:(T.filter fun x=>x.Id != i).length=T.length
 ·rw [if_pos (by show (((T.filter _).length:Int) == (T.length:Int))=true; rw [h]; simp),filt_len h]
 ·rw [if_neg (by show ¬(((T.filter _).length:Int) == (T.length:Int))=true; simp; omega)]
  show api_Shots.mk _ _ _ (keepP (keepP s.Pasts T) (T.filter _)) _ _=_
  rw [keep_keep fun x hx=>(List.mem_filter.1 hx).1]; rfl
theorem drop_sh2 (s:api_Shots) {T:List api_Shot} {i:Int} (h:∃x,x∈T∧x.Id=i):(dropS (shS s T) i).2=0:=by
 obtain ⟨x,hx,hi⟩:=h
 unfold dropS dropT
 rw [if_neg]
 show ¬(((T.filter _).length:Int) == (T.length:Int))=true
 have:(T.filter fun x=>x.Id != i).length < T.length:=by
  rw [List.length_filter_lt_length_iff_exists]
  exact ⟨x,hx,by simp [hi]⟩
 simp; omega
section
variable {k:Nat} {s:api_Shots}
theorem SI.sh (h:SI k s):s=shS s s.Taken:=by
 unfold shS
 have:keepP s.Pasts s.Taken=s.Pasts:=List.filter_eq_self.2 fun p hp=>(h.pt p hp).2
 rw [this]
theorem SI.shS (h:SI k s) {T:List api_Shot} (hT:T.Sublist s.Taken):SI k (shS s T):=by
 have hP:=List.length_filter_le (fun p=>seesB T p.From p.Till) s.Pasts
 refine ⟨h.f,h.t,h.si,h.tk,h.nx,h.sn,by have:=h.ta; have:=hT.length_le; show T.length≤k; omega,by have:=h.ps; show (keepP s.Pasts T).length≤_; unfold keepP; omega,fun p hp=>h.pe p (List.mem_filter.1 hp).1,h.id.sublist hT,fun x hx=>h.ti x (hT.subset hx),fun p hp=>⟨(h.pt p (List.mem_filter.1 hp).1).1,(List.mem_filter.1 hp).2⟩⟩
theorem filt_snoc {x:api_Shot} {T:List api_Shot} (h:(T++[x]).Pairwise fun x y=>x.Id < y.Id):((T++[x]).filter fun y=>y.Id != x.Id)=T:=by
 obtain ⟨_,_,h3⟩:=List.pairwise_append.1 h
 have:T.filter (fun y=>y.Id != x.Id)=T:=by
  rw [List.filter_eq_self]; intro y hy; have:=h3 y hy x (by simp); simp; omega
 rw [List.filter_append,this]; simp
def flat2 (a b:api_Shots):List api_Node×Int×Int×Int×List Int×List api_Past×List api_Shot×Int×List api_Node×Int×Int×Int×List Int×List api_Past×List api_Shot×Int:=(a.Now.Nodes,a.Now.Next,a.Now.Cookie,a.Tick,a.Since,a.Pasts,a.Taken,a.Next,b.Now.Nodes,b.Now.Next,b.Now.Cookie,b.Tick,b.Since,b.Pasts,b.Taken,b.Next)
end
end Go.Proofs
