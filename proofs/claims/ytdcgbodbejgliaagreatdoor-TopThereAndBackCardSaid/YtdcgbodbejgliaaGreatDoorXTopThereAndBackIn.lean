/- What a law of this seat may be handed, typed. No condition. -/
import Derived.Test.YtdcgbodbejgliaaGreatDoorXTopThereAndBackEn
open Option renaming some->V
namespace Go.Proofs
set_option linter.all false
open Go Go.Cat
variable[M:cD]

def Bl(n:Int):Prop:=ae n
theorem CX{t:TypeId}(hu:Tryz.prog.underlying t=V (.int .i64)){xs:List AV}(h:fb Tryz.prog t xs):∃ x:Int,xs=Go.Cat.encI x /\ Bl x:=by
  obtain⟨n,rfl,hn⟩:=h.VD hu
  exact⟨n,rfl,wf_i64 hn⟩

def yL(l:List UInt8):Prop:=l.length <= 9223372036854775807
theorem G5{t:TypeId}(hu:Tryz.prog.underlying t=V .string){xs:List AV}(h:fb Tryz.prog t xs):∃ x:List UInt8,xs=fg x /\ yL x:=by
  obtain⟨l,rfl,hl⟩:=h.ahr hu
  exact⟨l,rfl,hl⟩

def Oy(_:UInt8):Prop:=True
theorem aa6{t:TypeId}(hu:Tryz.prog.underlying t=V (.int .u8)){xs:List AV}(h:fb Tryz.prog t xs):∃ x:UInt8,xs=dV x /\ Oy x:=by
  obtain⟨n,rfl,hn⟩:=h.VD hu
  exact⟨nt n,congrArg (λm =>[AV.v (.int .u8 m)]) (wf_u8 hn),trivial⟩

def Wm(l:List UInt8):Prop:=l.length <= 9223372036854775807 /\ ∀ x,x ∈ l->Oy x
theorem aa2{t:TypeId}(hu:Tryz.prog.underlying t=V (.slice 5)){xs:List AV}(h:fb Tryz.prog t xs):∃ x:List UInt8,xs=[.s (List.map dV x)] /\ Wm x:=by
  obtain⟨rows,rfl,hl,hr⟩:=h.Yi hu
  obtain⟨l,rfl,bU⟩:=Pz (c:=dV) (ok:=Oy) λr db => aa6 (by kernel_rfl) (hr r db)
  exact⟨l,rfl,by rw[List.length_map]at hl; exact hl,bU⟩

def Ox(x:dO):Prop:=Bl x.θ /\ Bl x.gp /\ yL x.ib /\ yL x.To /\ Bl x.N /\ Bl x.M /\ Bl x.iR /\ Wm x.aK
theorem aa5{t:TypeId}(hu:(Tryz.prog.underlying t).map (λd => match d with | .struct fs => V (fs.toList.map (·.type)) | _ => none)=V (V [3,3,9,9,3,3,3,41])){xs:List AV}(h:fb Tryz.prog t xs):∃ x:dO,xs=CS x /\ Ox x:=by
  have g0:=h.fields hu
  obtain⟨a0,b0,e0,h0,g1⟩:=g0.cons_inv
  obtain⟨x0,f0,o0⟩:=CX (by kernel_rfl) h0
  obtain⟨a1,b1,e1,h1,g2⟩:=g1.cons_inv
  obtain⟨x1,f1,o1⟩:=CX (by kernel_rfl) h1
  obtain⟨a2,b2,e2,h2,g3⟩:=g2.cons_inv
  obtain⟨x2,f2,o2⟩:=G5 (by kernel_rfl) h2
  obtain⟨a3,b3,e3,h3,g4⟩:=g3.cons_inv
  obtain⟨x3,f3,o3⟩:=G5 (by kernel_rfl) h3
  obtain⟨a4,b4,e4,h4,g5⟩:=g4.cons_inv
  obtain⟨x4,f4,o4⟩:=CX (by kernel_rfl) h4
  obtain⟨a5,b5,e5,h5,g6⟩:=g5.cons_inv
  obtain⟨x5,f5,o5⟩:=CX (by kernel_rfl) h5
  obtain⟨a6,b6,e6,h6,g7⟩:=g6.cons_inv
  obtain⟨x6,f6,o6⟩:=CX (by kernel_rfl) h6
  obtain⟨a7,b7,e7,h7,g8⟩:=g7.cons_inv
  obtain⟨x7,f7,o7⟩:=aa2 (by kernel_rfl) h7
  have e:=g8.Oo
  subst e0 f0 e1 f1 e2 f2 e3 f3 e4 f4 e5 f5 e6 f6 e7 f7 e
  exact⟨⟨x0,x1,x2,x3,x4,x5,x6,x7⟩,rfl,o0,o1,o2,o3,o4,o5,o6,o7⟩

def IN(l:List dO):Prop:=l.length <= 9223372036854775807 /\ ∀ x,x ∈ l->Ox x
theorem aa3{t:TypeId}(hu:Tryz.prog.underlying t=V (.slice 51)){xs:List AV}(h:fb Tryz.prog t xs):∃ x:List dO,xs=[.s (List.map CS x)] /\ IN x:=by
  obtain⟨rows,rfl,hl,hr⟩:=h.Yi hu
  obtain⟨l,rfl,bU⟩:=Pz (c:=CS) (ok:=Ox) λr db => aa5 (by kernel_rfl) (hr r db)
  exact⟨l,rfl,by rw[List.length_map]at hl; exact hl,bU⟩
end Go.Proofs
