/- Contracts of what is taken from Go's package strings. No condition. -/
import Derived.Shelf.Small.Strs
import Derived.Shelf.Strings.OnBuilder
import Derived.Test.YtdcgbodbejgliaaGreatDoorXTopThereAndBackEn
set_option linter.all false
set_option maxRecDepth 100000
open Option renaming some->V
namespace Go.Proofs
open Go.Proofs.Tryz
set_option linter.all false
open Go Go.Cat Go.Shelf
def aen:Go.Shelf.Ren:=⟨λ|106=>241|213=>278|265=>301|n=>n,λ|9=>9|3=>3|n=>n,λ|n=>n⟩
def aem:Go.Proofs.Lays.n106 prog aen:={
 mixed:=by kernel_rfl
 f106:=func241.trans (congrArg V (by kernel_rfl))
 f213:=func278.trans (congrArg V (by kernel_rfl))
 f265:=func301.trans (congrArg V (by kernel_rfl))
 t3:=underlying3
 a3:=isAgg3
 z3:=sizeOf3
 v3:=zeroValue3
 t9:=underlying9
 a9:=isAgg9
 z9:=sizeOf9
 v9:=zeroValue9 }
def aep:Go.Shelf.Ren:=⟨λ|137=>266|217=>295|266=>318|n=>n,λ|9=>9|5=>5|3=>3|n=>n,λ|n=>n⟩
def aeo:Go.Proofs.Lays.n137 prog aep:={
 mixed:=by kernel_rfl
 f137:=func266.trans (congrArg V (by kernel_rfl))
 f217:=func295.trans (congrArg V (by kernel_rfl))
 f266:=func318.trans (congrArg V (by kernel_rfl))
 t3:=underlying3
 a3:=isAgg3
 z3:=sizeOf3
 v3:=zeroValue3
 t5:=underlying5
 a5:=isAgg5
 z5:=sizeOf5
 v5:=zeroValue5
 t9:=underlying9
 a9:=isAgg9
 z9:=sizeOf9
 v9:=zeroValue9 }
def VV:Go.Shelf.Ren:=⟨λ|156=>269|165=>296|166=>297|169=>298|240=>319|241=>320|276=>327|277=>328|n=>n,λ|31=>38|9=>9|3=>3|4=>4|0=>0|20=>20|72=>341|76=>342|70=>339|37=>41|75=>68|127=>358|164=>118|5=>5|80=>93|n=>n,λ|n=>n⟩
def VU:Go.Proofs.Lays.n156 prog VV:={
 mixed:=by kernel_rfl
 f156:=func269.trans (congrArg V (by kernel_rfl))
 f165:=func296.trans (congrArg V (by kernel_rfl))
 f166:=func297.trans (congrArg V (by kernel_rfl))
 f169:=func298.trans (congrArg V (by kernel_rfl))
 f240:=func319.trans (congrArg V (by kernel_rfl))
 f241:=func320.trans (congrArg V (by kernel_rfl))
 f276:=func327.trans (congrArg V (by kernel_rfl))
 f277:=func328.trans (congrArg V (by kernel_rfl))
 t0:=underlying0
 a0:=isAgg0
 z0:=sizeOf0
 v0:=zeroValue0
 t3:=underlying3
 a3:=isAgg3
 z3:=sizeOf3
 v3:=zeroValue3
 t4:=underlying4
 a4:=isAgg4
 z4:=sizeOf4
 v4:=zeroValue4
 t9:=underlying9
 a9:=isAgg9
 z9:=sizeOf9
 v9:=zeroValue9
 t20:=underlying20
 a20:=isAgg20
 z20:=sizeOf20
 v20:=zeroValue20
 t31:=underlying38
 a31:=isAgg38
 z31:=sizeOf38
 v31:=zeroValue38
 t37:=underlying41
 a37:=isAgg41
 z37:=sizeOf41
 v37:=zeroValue41
 t70:=underlying339
 a70:=isAgg339
 z70:=sizeOf339
 v70:=zeroValue339
 t72:=underlying341
 a72:=isAgg341
 z72:=sizeOf341
 v72:=zeroValue341
 t75:=underlying68
 a75:=isAgg68
 z75:=sizeOf68
 v75:=zeroValue68
 t76:=underlying342
 a76:=isAgg342
 z76:=sizeOf342
 v76:=zeroValue342
 t127:=underlying358
 a127:=isAgg358
 z127:=sizeOf358
 v127:=zeroValue358
 t164:=underlying118
 a164:=isAgg118
 z164:=sizeOf118
 v164:=zeroValue118 }
section
variable[M:cD]
def cmp_eq:∀a b:List UInt8,Lib.compareBytes a b=mR a b
 |[],[]=>rfl
 |[],_::_=>rfl
 |_::_,[]=>rfl
 |a::l,b::r=>by simp only[Lib.compareBytes,mR,cmp_eq l r]
def VG:∀(a:List UInt8)(c:UInt8),Lib.indexByte a c=ni a c
 |[],_=>rfl
 |b::l,c=>by simp only[Lib.indexByte,ni,VG l c]
def two{vs:Array Value}{a b:Value}(hs:vs.size=2)(h0:vs.getD 0 undef=a)(h1:vs.getD 1 undef=b):vs=#[a,b]:=by
 apply Array.ext
 .simpa using hs
 .intro i h2 h3;have h3:i<2:=h3
  have:i=0\/i=1:=by omega
  rcases this with rfl|rfl
  .simpa [hs]using h0
  .simpa [hs]using h1
def adP(a b:List UInt8):Pure prog 241 [vs a,vs b] (vi (mR a b)):=by
 refine⟨⟨_,_,func241,by kernel_rfl,rfl⟩,λw F β us hI hs hv=>?_⟩;have e:=two hs (hv 0 (by simp)).bK (hv 1 (by simp)).bK;subst e;refine(Any.strings_Compare aem ⟨a.toArray⟩ ⟨b.toArray⟩ w).mono ?_;rintro e w' ⟨rfl,rfl⟩;refine⟨_,rfl,Below.refl _ _,?_⟩;rw[cmp_eq];exact .v (.inl rfl)
def adQ(a:List UInt8)(c:UInt8):Pure prog 266 [vs a,vu c] (vi (ni a c)):=by
 refine⟨⟨_,_,func266,by kernel_rfl,rfl⟩,λw F β us hI hs hv=>?_⟩;have e:=two hs (hv 0 (by simp)).bK (hv 1 (by simp)).bK;subst e;refine(Any.strings_IndexByte aeo ⟨a.toArray⟩ _ w).mono ?_;rintro e w' ⟨rfl,rfl⟩;refine⟨_,rfl,Below.refl _ _,?_⟩;rw[VG]
 have:((c.toNat:Int).toNat.toUInt8)=c:=by simp
 rw[this];exact .v (.inl rfl)
def aht{w:World}{F:Nat->Prop}{l:List (List UInt8)}{u:Value}(h:bq w F (.s (l.map fg)) u):(l=[]/\∃a,u=.slice a 0 0)\/∃(b off c:Nat),F b/\l.length<=c/\c<=maxLen/\u=.slice (V ⟨b,off,none⟩) l.length c /\
  ∀m,m<l.length->w.cell? ⟨b,off+m,none⟩=V (.string ⟨(l.getD m []).toArray⟩):=by
 rcases h.sV with⟨h1,h2⟩|⟨b,off,c,K,v,hb,hc,hm,rfl,hK,hv⟩
 .exact .inl ⟨by simpa using h1,h2⟩
 .right
  simp at hc;refine⟨b,off,c,hb,hc,hm,by simp,λm hm=>?_⟩
  have bN:m<(l.map fg).length:=by simpa using hm
  have h1:=hK m bN
  have eg:(l.map fg).getD m []=fg (l.getD m []):=by simp[List.getD,hm]
  rw[eg]at h1
  have qV:K=1:=by simpa [fg]using h1.symm
  subst qV;have:=hv m 0 bN (by omega);rw[eg]at this;have h2:=this.2.2
  have h3:v m 0=.string ⟨(l.getD m []).toArray⟩:=by
   have:Rd w F (λ_=>undef) (vs (l.getD m [])) (v m 0):=.i h2;exact this.bK
  rw[<-h3];simpa using this.1
def Tp:Builder.Extra prog VV:={
 sizeBuilder:=by kernel_rfl
 liesBuilder:=by kernel_rfl
 t5:=underlying5
 a5:=isAgg5
 z5:=sizeOf5
 v5:=zeroValue5
 infoByte:=by kernel_rfl
 cellsByte:=by kernel_rfl
 sizeByte:=by kernel_rfl
 neB5:=by decide }
def adR[oC](l:List (List UInt8))(sep:List UInt8)(h:l.length<=140737488355328/\(ke l sep).length<=140737488355328):Pure prog 269 [.s (l.map fg),vs sep] (vs (ke l sep)):=by
 refine⟨⟨_,_,func269,by kernel_rfl,rfl⟩,λw F β us hI hs hv=>?_⟩;have h0:=hv 0 (by simp);change Rd w F β (.s (l.map fg)) _ at h0
 rcases aht (h0.oX)with⟨rfl,a,ha⟩|⟨b,off,c,hb,hc,hm,hu,eT⟩
 .have e:=two hs ha (hv 1 (by simp)).bK;subst e;refine(Any.strings_Join_none VU Tp a 0 ⟨sep.toArray⟩ w).mono ?_;rintro e w' ⟨rfl,rfl⟩;exact⟨_,rfl,Below.refl _ _,.v (.inl rfl)⟩
 .have e:=two hs hu (hv 1 (by simp)).bK;subst e
  have hj:(l.map λx=>(⟨x.toArray⟩:ByteArray)).map (·.data.toList)=l:=by simp[List.map_map,Function.comp_def]
  have:=Any.strings_Join VU Tp b off c (l.map λx=>(⟨x.toArray⟩:ByteArray)) ⟨sep.toArray⟩ w (λj x hx=>by
    obtain⟨AN,rfl⟩:=List.getElem?_eq_some_iff.1 hx;simp only[List.length_map]at AN
    rw[eT j AN];simp[List.getD,AN]) (hI.cH b hb) (by simpa using h.1) (by simpa using hc) (by rw[hj];exact h.2)
  rw[hj,List.length_map]at this;refine this.mono ?_;rintro e w' ⟨rfl,qX⟩;exact⟨_,rfl,⟨qX.os,⟨qX.tape,λm=>(oC.off m).elim⟩,qX.output,qX.size,qX.block⟩,.v (.inl rfl)⟩
end
end Go.Proofs
