/- The walks of this seat beside the plain programs, part 3. No condition. -/
import Derived.Test.YtaaaipgdnofafaaGreatXChainTellsEn
import Derived.Test.YtaaaipgdnofafaaGreatXChainTellsWk0
import Derived.Test.YtaaaipgdnofafaaGreatXChainTellsWk1
import Derived.Test.YtaaaipgdnofafaaGreatXChainTellsWk2
namespace Go.Proofs
set_option linter.all false
open Go Go.Cat
variable [M:Mono]
set_option maxRecDepth 100000
theorem w_law26N4 [Off] {r} (h:law26_head=some r):Pure Tryz.prog 9 [] (vb r):=by
 refine po Tryz.tok 259 Tryz.func9 (by kernel_rfl) rfl rfl rfl ?_
 unfold law26_head at h
 refine wE [] Q0 ?_
 refine sg ?_
 refine wE [] Q0 ?_
 refine sg ?_
 obtain ⟨x1,hx1,h⟩:=bindS h
 refine CallOk.call (w_disk_New hx1) (LeL.refl _) ?_
 obtain ⟨x2,hx2,h⟩:=bindS h
 refine CallOk.call (w_disk_New hx2) (LeL.refl _) ?_
 obtain ⟨x3,hx3,h⟩:=bindS h
 refine CallOk.call (w_disk_New hx3) (LeL.refl _) ?_
 refine Or.inl ?_
 refine wE [(1,.s (mA ([x1,x2,x3])))] Q1 ?_
 refine sg ?_
 obtain ⟨x4,hx4,h⟩:=bindS h
 refine Or.inl (Or.inl ?_)
 refine CallOk.call (w_chainN4 hx4) (LeL.refl _) ?_
 refine ⟨_,rfl,?_⟩
 refine wT [(1,.s (mA ([x1,x2,x3]))),(2,.b 2 0),(3,.s (mA x4.2.1)),(4,vi x4.2.2)] [(2,.box [vi x4.1.Id,vi x4.1.Ver,.s (mI x4.1.Servers)])] Q4 J1 rfl ?_
 refine sg ?_
 obtain ⟨x5,hx5,h⟩:=bindS h
 refine Or.inl ?_
 refine CallOk.call (w_chainN4 hx5) (.cons (lr) (.cons (lr) (.cons (lr) (.cons (Le.nil) (.nil))))) ?_
 refine ⟨_,rfl,?_⟩
 refine wT [(2,.b 2 0),(3,.s (mA x4.2.1)),(4,vi x4.2.2),(7,vi x5.2.2)] [(2,.box [vi x4.1.Id,vi x4.1.Ver,.s (mI x4.1.Servers)])] Q4 J1 rfl ?_
 refine sg ?_
 obtain ⟨x6,hx6,h⟩:=bindS h
 refine ⟨_,rfl,Or.inl ?_⟩
 refine CallOk.call (w_chainN11 hx6) (LeL.refl _) ?_
 refine wT [(2,.b 2 0),(4,vi x4.2.2),(7,vi x5.2.2),(8,.s (mA x6.1)),(9,vb x6.2)] [(2,.box [vi x4.1.Id,vi x4.1.Ver,.s (mI x4.1.Servers)])] Q5 J1 rfl ?_
 refine sg ?_
 obtain ⟨x7,hx7,h⟩:=bindS h
 refine ⟨_,rfl,?_⟩
 refine CallOk.call (w_chainN9 hx7) (LeL.refl _) ?_
 refine wT [(2,.b 2 0),(4,vi x4.2.2),(7,vi x5.2.2),(8,.s (mA x6.1)),(9,vb x6.2),(10,.s (mU x7.1)),(11,vi x7.2)] [(2,.box [vi x4.1.Id,vi x4.1.Ver,.s (mI x4.1.Servers)])] Q7 J1 rfl ?_
 refine sg ?_
 obtain ⟨x8,hx8,h⟩:=bindS h
 refine ⟨_,rfl,?_⟩
 refine CallOk.call (w_chain_Cut hx8) (LeL.refl _) ?_
 refine ⟨_,rfl,?_⟩
 refine sg ?_
 obtain ⟨x9,hx9,h⟩:=bindS h
 refine ⟨_,rfl,?_⟩
 refine CallOk.call (w_chainN9 hx9) (LeL.refl _) ?_
 refine wT [(2,.b 2 0),(4,vi x4.2.2),(7,vi x5.2.2),(8,.s (mA x6.1)),(9,vb x6.2),(10,.s (mU x7.1)),(11,vi x7.2),(12,.b 12 0),(13,.s (mA x8.2.1)),(14,vi x8.2.2),(15,.s (mU x9.1)),(16,vi x9.2)] [(2,.box [vi x4.1.Id,vi x4.1.Ver,.s (mI x4.1.Servers)]),(12,.box [vi x8.1.Id,vi x8.1.Ver,.s (mI x8.1.Servers)])] ⟨lr,lr,lr,lr,Q8⟩ J2 rfl ?_
 refine sg ?_
 obtain ⟨x10,hx10,h⟩:=bindS h
 refine ⟨_,rfl,?_⟩
 refine CallOk.call (w_chain_Cut hx10) (LeL.refl _) ?_
 refine ⟨_,rfl,?_⟩
 refine sg ?_
 obtain ⟨x11,hx11,h⟩:=bindS h
 refine ⟨_,rfl,?_⟩
 refine CallOk.call (w_chainN9 hx11) (LeL.refl _) ?_
 refine wT [(2,.b 2 0),(4,vi x4.2.2),(7,vi x5.2.2),(9,vb x6.2),(10,.s (mU x7.1)),(11,vi x7.2),(12,.b 12 0),(13,.s (mA x8.2.1)),(14,vi x8.2.2),(15,.s (mU x9.1)),(16,vi x9.2),(17,.b 17 0),(18,.s (mA x10.2.1)),(19,vi x10.2.2),(20,.s (mU x11.1)),(21,vi x11.2)] [(2,.box [vi x4.1.Id,vi x4.1.Ver,.s (mI x4.1.Servers)]),(12,.box [vi x8.1.Id,vi x8.1.Ver,.s (mI x8.1.Servers)]),(17,.box [vi x10.1.Id,vi x10.1.Ver,.s (mI x10.1.Servers)])] ⟨lr,lr,lr,lr,lr,lr,lr,lr,Q8⟩ J3 rfl ?_
 refine sg ?_
 obtain ⟨x12,hx12,h⟩:=bindS h
 refine ⟨_,rfl,?_⟩
 refine CallOk.call (w_chainN9 hx12) (LeL.refl _) ?_
 refine sg ?_
 obtain ⟨x13,hx13,h⟩:=bindS h
 refine ⟨_,rfl,?_⟩
 refine CallOk.call (w_chainN6 hx13) (LeL.refl _) ?_
 refine ⟨_,rfl,?_⟩
 refine wT [(4,vi x4.2.2),(7,vi x5.2.2),(9,vb x6.2),(10,.s (mU x7.1)),(11,vi x7.2),(12,.b 12 0),(13,.s (mA x8.2.1)),(14,vi x8.2.2),(15,.s (mU x9.1)),(16,vi x9.2),(19,vi x10.2.2),(20,.s (mU x11.1)),(21,vi x11.2),(23,vi x12.2),(24,.b 24 0),(25,.s (mA x13.2.1)),(26,vi x13.2.2)] [(12,.box [vi x8.1.Id,vi x8.1.Ver,.s (mI x8.1.Servers)]),(24,.box [vi x13.1.Id,vi x13.1.Ver,.s (mI x13.1.Servers)])] ⟨lr,lr,lr,lr,lr,lr,lr,lr,lr,Q8⟩ J2 rfl ?_
 refine sg ?_
 obtain ⟨x14,hx14,h⟩:=bindS h
 refine ⟨_,rfl,?_⟩
 refine CallOk.call (w_chainN9 hx14) (LeL.refl _) ?_
 refine sq ?_
 refine Ok.draw (m:=10) (MD:=⟨[]⟩) (CH:=⟨[]⟩) Tryz.tok Tryz.mixed (by kernel_rfl) ?_
 obtain ⟨x15,hx15,h⟩:=bindS h
 obtain ⟨x16,hx16,h⟩:=bindS h
 obtain ⟨x17,hx17,h⟩:=bindS h
 refine ⟨_,⟨_,rfl,rfl⟩,_,rfl,_,⟨_,.of_pure (w_disk_New hx15) (LeL.refl _),rfl⟩,_,⟨_,.of_pure (w_law26N6 hx16) (LeL.refl _),rfl⟩,_,⟨_,.of_pure (w_chainN7 hx17) (LeL.refl _),rfl⟩,_,rfl,_,rfl,_,rfl,_,rfl,_,rfl,Q0,?_⟩
 refine wT [(4,vi x4.2.2),(7,vi x5.2.2),(9,vb x6.2),(10,.s (mU x7.1)),(11,vi x7.2),(12,.b 12 0),(13,.s (mA x8.2.1)),(14,vi x8.2.2),(15,.s (mU x9.1)),(16,vi x9.2),(19,vi x10.2.2),(20,.s (mU x11.1)),(21,vi x11.2),(23,vi x12.2),(24,.b 24 0),(25,.s (mA x13.2.1)),(26,vi x13.2.2),(27,.s (mU x14.1)),(28,vi x14.2),(29,.s (mA x17.1)),(30,vi x17.2)] [(12,.box [vi x8.1.Id,vi x8.1.Ver,.s (mI x8.1.Servers)]),(24,.box [vi x13.1.Id,vi x13.1.Ver,.s (mI x13.1.Servers)])] ⟨lr,lr,lr,lr,lr,lr,lr,lr,lr,lr,lr,lr,lr,Q8⟩ J2 rfl ?_
 refine sg ?_
 obtain ⟨x18,hx18,h⟩:=bindS h
 refine ⟨_,rfl,?_⟩
 refine CallOk.call (w_chain_Cut hx18) (LeL.refl _) ?_
 refine ⟨_,rfl,?_⟩
 refine sg ?_
 obtain ⟨x19,hx19,h⟩:=bindS h
 refine ⟨_,rfl,Or.inl ?_⟩
 refine CallOk.call (w_chainN11 hx19) (LeL.refl _) ?_
 refine wT [(4,vi x4.2.2),(7,vi x5.2.2),(9,vb x6.2),(10,.s (mU x7.1)),(11,vi x7.2),(14,vi x8.2.2),(15,.s (mU x9.1)),(16,vi x9.2),(19,vi x10.2.2),(20,.s (mU x11.1)),(21,vi x11.2),(23,vi x12.2),(24,.b 24 0),(25,.s (mA x13.2.1)),(26,vi x13.2.2),(27,.s (mU x14.1)),(28,vi x14.2),(29,.s (mA x17.1)),(30,vi x17.2),(33,vi x18.2.2),(34,.s (mA x19.1)),(35,vb x19.2)] [(24,.box [vi x13.1.Id,vi x13.1.Ver,.s (mI x13.1.Servers)])] ⟨lr,lr,lr,lr,lr,lr,lr,lr,lr,lr,lr,lr,lr,lr,Q8⟩ J1 rfl ?_
 refine sg ?_
 obtain ⟨x20,hx20,h⟩:=bindS h
 refine Or.inl ?_
 refine CallOk.call (w_ref04N1 hx20) (LeL.refl _) ?_
 refine sg ?_
 obtain ⟨x21,hx21,h⟩:=bindS h
 refine Or.inl ?_
 refine CallOk.call (w_ref04N1 hx21) (LeL.refl _) ?_
 refine wT [(4,vi x4.2.2),(7,vi x5.2.2),(9,vb x6.2),(11,vi x7.2),(14,vi x8.2.2),(16,vi x9.2),(19,vi x10.2.2),(20,.s (mU x11.1)),(21,vi x11.2),(23,vi x12.2),(24,.b 24 0),(25,.s (mA x13.2.1)),(26,vi x13.2.2),(27,.s (mU x14.1)),(28,vi x14.2),(29,.s (mA x17.1)),(30,vi x17.2),(33,vi x18.2.2),(34,.s (mA x19.1)),(35,vb x19.2),(36,vb x20),(37,vb x21)] [(24,.box [vi x13.1.Id,vi x13.1.Ver,.s (mI x13.1.Servers)])] ⟨lr,lr,lr,lr,lr,lr,lr,lr,lr,lr,lr,lr,lr,lr,Q8⟩ J1 rfl ?_
 refine sg ?_
 obtain ⟨x22,hx22,h⟩:=bindS h
 refine Or.inl ?_
 refine CallOk.call (w_ref04N1 hx22) (LeL.refl _) ?_
 refine sg ?_
 obtain ⟨x23,hx23,h⟩:=bindS h
 refine Or.inl ?_
 refine CallOk.call (w_ref04N1 hx23) (LeL.refl _) ?_
 refine wT [(4,vi x4.2.2),(7,vi x5.2.2),(9,vb x6.2),(11,vi x7.2),(14,vi x8.2.2),(16,vi x9.2),(19,vi x10.2.2),(21,vi x11.2),(23,vi x12.2),(24,.b 24 0),(25,.s (mA x13.2.1)),(26,vi x13.2.2),(28,vi x14.2),(29,.s (mA x17.1)),(30,vi x17.2),(33,vi x18.2.2),(34,.s (mA x19.1)),(35,vb x19.2),(36,vb x20),(37,vb x21),(38,vb x22),(39,vb x23)] [(24,.box [vi x13.1.Id,vi x13.1.Ver,.s (mI x13.1.Servers)])] ⟨lr,lr,lr,lr,lr,lr,lr,lr,lr,lr,lr,lr,lr,lr,Q8⟩ J1 rfl ?_
 refine sg ?_
 obtain ⟨x24,hx24,h⟩:=bindS h
 refine ⟨_,rfl,?_⟩
 refine CallOk.call (w_chainN3 hx24) (LeL.refl _) ?_
 obtain ⟨x25,hx25,h⟩:=bindS h
 refine Or.inl ?_
 refine CallOk.call (w_ref26N3 hx25) (LeL.refl _) ?_
 refine sq ?_
 refine Ok.draw (m:=8) (MD:=⟨[]⟩) (CH:=⟨[]⟩) Tryz.tok Tryz.mixed (by kernel_rfl) ?_
 obtain ⟨x26,hx26,h⟩:=bindS h
 obtain ⟨x27,hx27,h⟩:=bindS h
 obtain ⟨x28,hx28,h⟩:=bindS h
 obtain ⟨x29,hx29,h⟩:=bindS h
 refine ⟨_,⟨_,rfl,rfl⟩,_,rfl,_,⟨_,.of_pure (w_disk_New hx26) (LeL.refl _),rfl⟩,_,⟨_,.of_pure (w_law26N6 hx27) (LeL.refl _),rfl⟩,_,⟨_,.of_pure (w_chainN3 hx28) (LeL.refl _),rfl⟩,_,rfl,_,⟨_,.of_pure (w_ref26N3 hx29) (LeL.refl _),rfl⟩,_,rfl,Q0,?_⟩
 refine wT [(4,vi x4.2.2),(7,vi x5.2.2),(9,vb x6.2),(11,vi x7.2),(14,vi x8.2.2),(16,vi x9.2),(19,vi x10.2.2),(21,vi x11.2),(23,vi x12.2),(24,.b 24 0),(26,vi x13.2.2),(28,vi x14.2),(30,vi x17.2),(33,vi x18.2.2),(34,.s (mA x19.1)),(35,vb x19.2),(36,vb x20),(37,vb x21),(38,vb x22),(39,vb x23),(40,vb x25),(41,vb x29)] [(24,.box [vi x13.1.Id,vi x13.1.Ver,.s (mI x13.1.Servers)])] ⟨lr,lr,lr,lr,lr,lr,lr,lr,lr,lr,lr,lr,lr,lr,Q8⟩ J1 rfl ?_
 refine sg ?_
 obtain ⟨x30,hx30,h⟩:=bindS h
 refine ⟨_,rfl,Or.inl ?_⟩
 refine CallOk.call (w_ref26N8 hx30) (LeL.refl _) ?_
 refine sq ?_
 obtain ⟨v1,hv1,h⟩:=bindS h
 refine Ok.seqw ⟨Cat.tab [(23,vi x12.2),(24,.b 24 0),(26,vi x13.2.2),(28,vi x14.2),(30,vi x17.2),(33,vi x18.2.2),(34,.s (mA x19.1)),(35,vb x19.2),(226,vb v1)],[(24,.box [vi x13.1.Id,vi x13.1.Ver,.s (mI x13.1.Servers)])]⟩ ?_ ?_
 ·refine rg ?_
  obtain ⟨c1,hg1,hv1⟩:=bindS hv1
  refine Br.itf hg1 (fun hb hg1=>?_) fun hb hg1=>?_
  ·cases hg1
   obtain ⟨c2,hg2,hv1⟩:=bindS hv1
   replace hg2:=iteT hg2
   cases hg2
   obtain ⟨c3,hg3,hv1⟩:=bindS hv1
   replace hg3:=iteT hg3
   cases hg3
   obtain ⟨c4,hg4,hv1⟩:=bindS hv1
   replace hg4:=iteT hg4
   cases hg4
   obtain ⟨c5,hg5,hv1⟩:=bindS hv1
   replace hg5:=iteT hg5
   cases hg5
   obtain ⟨c6,hg6,hv1⟩:=bindS hv1
   replace hg6:=iteT hg6
   cases hg6
   obtain ⟨c7,hg7,hv1⟩:=bindS hv1
   replace hg7:=iteT hg7
   cases hg7
   obtain ⟨c8,hg8,hv1⟩:=bindS hv1
   replace hg8:=iteT hg8
   cases hg8
   obtain ⟨c9,hg9,hv1⟩:=bindS hv1
   replace hg9:=iteT hg9
   cases hg9
   obtain ⟨c10,hg10,hv1⟩:=bindS hv1
   replace hg10:=iteT hg10
   cases hg10
   obtain ⟨c11,hg11,hv1⟩:=bindS hv1
   replace hg11:=iteT hg11
   cases hg11
   obtain ⟨c12,hg12,hv1⟩:=bindS hv1
   replace hg12:=iteT hg12
   cases hg12
   obtain ⟨c13,hg13,hv1⟩:=bindS hv1
   replace hg13:=iteT hg13
   cases hg13
   obtain ⟨c14,hg14,hv1⟩:=bindS hv1
   replace hg14:=iteT hg14
   cases hg14
   cases hv1
   exact wt ⟨lr,Q8⟩ J1 rfl
  cases hg1
  obtain ⟨c2,hg15,hv1⟩:=bindS hv1
  refine Br.itf hg15 (fun hb hg15=>?_) fun hb hg15=>?_
  ·cases hg15
   obtain ⟨c3,hg16,hv1⟩:=bindS hv1
   replace hg16:=iteT hg16
   cases hg16
   obtain ⟨c4,hg17,hv1⟩:=bindS hv1
   replace hg17:=iteT hg17
   cases hg17
   obtain ⟨c5,hg18,hv1⟩:=bindS hv1
   replace hg18:=iteT hg18
   cases hg18
   obtain ⟨c6,hg19,hv1⟩:=bindS hv1
   replace hg19:=iteT hg19
   cases hg19
   obtain ⟨c7,hg20,hv1⟩:=bindS hv1
   replace hg20:=iteT hg20
   cases hg20
   obtain ⟨c8,hg21,hv1⟩:=bindS hv1
   replace hg21:=iteT hg21
   cases hg21
   obtain ⟨c9,hg22,hv1⟩:=bindS hv1
   replace hg22:=iteT hg22
   cases hg22
   obtain ⟨c10,hg23,hv1⟩:=bindS hv1
   replace hg23:=iteT hg23
   cases hg23
   obtain ⟨c11,hg24,hv1⟩:=bindS hv1
   replace hg24:=iteT hg24
   cases hg24
   obtain ⟨c12,hg25,hv1⟩:=bindS hv1
   replace hg25:=iteT hg25
   cases hg25
   obtain ⟨c13,hg26,hv1⟩:=bindS hv1
   replace hg26:=iteT hg26
   cases hg26
   obtain ⟨c14,hg27,hv1⟩:=bindS hv1
   replace hg27:=iteT hg27
   cases hg27
   cases hv1
   exact wt ⟨lr,Q8⟩ J1 rfl
  cases hg15
  obtain ⟨c3,hg28,hv1⟩:=bindS hv1
  refine Br.itf hg28 (fun hb hg28=>?_) fun hb hg28=>?_
  ·cases hg28
   obtain ⟨c4,hg29,hv1⟩:=bindS hv1
   replace hg29:=iteT hg29
   cases hg29
   obtain ⟨c5,hg30,hv1⟩:=bindS hv1
   replace hg30:=iteT hg30
   cases hg30
   obtain ⟨c6,hg31,hv1⟩:=bindS hv1
   replace hg31:=iteT hg31
   cases hg31
   obtain ⟨c7,hg32,hv1⟩:=bindS hv1
   replace hg32:=iteT hg32
   cases hg32
   obtain ⟨c8,hg33,hv1⟩:=bindS hv1
   replace hg33:=iteT hg33
   cases hg33
   obtain ⟨c9,hg34,hv1⟩:=bindS hv1
   replace hg34:=iteT hg34
   cases hg34
   obtain ⟨c10,hg35,hv1⟩:=bindS hv1
   replace hg35:=iteT hg35
   cases hg35
   obtain ⟨c11,hg36,hv1⟩:=bindS hv1
   replace hg36:=iteT hg36
   cases hg36
   obtain ⟨c12,hg37,hv1⟩:=bindS hv1
   replace hg37:=iteT hg37
   cases hg37
   obtain ⟨c13,hg38,hv1⟩:=bindS hv1
   replace hg38:=iteT hg38
   cases hg38
   obtain ⟨c14,hg39,hv1⟩:=bindS hv1
   replace hg39:=iteT hg39
   cases hg39
   cases hv1
   exact wt ⟨lr,Q8⟩ J1 rfl
  cases hg28
  obtain ⟨c4,hg40,hv1⟩:=bindS hv1
  refine Br.itf hg40 (fun hb hg40=>?_) fun hb hg40=>?_
  ·cases hg40
   obtain ⟨c5,hg41,hv1⟩:=bindS hv1
   replace hg41:=iteT hg41
   cases hg41
   obtain ⟨c6,hg42,hv1⟩:=bindS hv1
   replace hg42:=iteT hg42
   cases hg42
   obtain ⟨c7,hg43,hv1⟩:=bindS hv1
   replace hg43:=iteT hg43
   cases hg43
   obtain ⟨c8,hg44,hv1⟩:=bindS hv1
   replace hg44:=iteT hg44
   cases hg44
   obtain ⟨c9,hg45,hv1⟩:=bindS hv1
   replace hg45:=iteT hg45
   cases hg45
   obtain ⟨c10,hg46,hv1⟩:=bindS hv1
   replace hg46:=iteT hg46
   cases hg46
   obtain ⟨c11,hg47,hv1⟩:=bindS hv1
   replace hg47:=iteT hg47
   cases hg47
   obtain ⟨c12,hg48,hv1⟩:=bindS hv1
   replace hg48:=iteT hg48
   cases hg48
   obtain ⟨c13,hg49,hv1⟩:=bindS hv1
   replace hg49:=iteT hg49
   cases hg49
   obtain ⟨c14,hg50,hv1⟩:=bindS hv1
   replace hg50:=iteT hg50
   cases hg50
   cases hv1
   exact wt ⟨lr,Q8⟩ J1 rfl
  cases hg40
  obtain ⟨c5,hg51,hv1⟩:=bindS hv1
  refine Br.itf hg51 (fun hb hg51=>?_) fun hb hg51=>?_
  ·cases hg51
   obtain ⟨c6,hg52,hv1⟩:=bindS hv1
   replace hg52:=iteT hg52
   cases hg52
   obtain ⟨c7,hg53,hv1⟩:=bindS hv1
   replace hg53:=iteT hg53
   cases hg53
   obtain ⟨c8,hg54,hv1⟩:=bindS hv1
   replace hg54:=iteT hg54
   cases hg54
   obtain ⟨c9,hg55,hv1⟩:=bindS hv1
   replace hg55:=iteT hg55
   cases hg55
   obtain ⟨c10,hg56,hv1⟩:=bindS hv1
   replace hg56:=iteT hg56
   cases hg56
   obtain ⟨c11,hg57,hv1⟩:=bindS hv1
   replace hg57:=iteT hg57
   cases hg57
   obtain ⟨c12,hg58,hv1⟩:=bindS hv1
   replace hg58:=iteT hg58
   cases hg58
   obtain ⟨c13,hg59,hv1⟩:=bindS hv1
   replace hg59:=iteT hg59
   cases hg59
   obtain ⟨c14,hg60,hv1⟩:=bindS hv1
   replace hg60:=iteT hg60
   cases hg60
   cases hv1
   exact wt ⟨lr,Q8⟩ J1 rfl
  cases hg51
  obtain ⟨c6,hg61,hv1⟩:=bindS hv1
  refine Br.itf hg61 (fun hb hg61=>?_) fun hb hg61=>?_
  ·cases hg61
   obtain ⟨c7,hg62,hv1⟩:=bindS hv1
   replace hg62:=iteT hg62
   cases hg62
   obtain ⟨c8,hg63,hv1⟩:=bindS hv1
   replace hg63:=iteT hg63
   cases hg63
   obtain ⟨c9,hg64,hv1⟩:=bindS hv1
   replace hg64:=iteT hg64
   cases hg64
   obtain ⟨c10,hg65,hv1⟩:=bindS hv1
   replace hg65:=iteT hg65
   cases hg65
   obtain ⟨c11,hg66,hv1⟩:=bindS hv1
   replace hg66:=iteT hg66
   cases hg66
   obtain ⟨c12,hg67,hv1⟩:=bindS hv1
   replace hg67:=iteT hg67
   cases hg67
   obtain ⟨c13,hg68,hv1⟩:=bindS hv1
   replace hg68:=iteT hg68
   cases hg68
   obtain ⟨c14,hg69,hv1⟩:=bindS hv1
   replace hg69:=iteT hg69
   cases hg69
   cases hv1
   exact wt ⟨lr,Q8⟩ J1 rfl
  cases hg61
  obtain ⟨c7,hg70,hv1⟩:=bindS hv1
  refine Br.itf hg70 (fun hb hg70=>?_) fun hb hg70=>?_
  ·cases hg70
   obtain ⟨c8,hg71,hv1⟩:=bindS hv1
   replace hg71:=iteT hg71
   cases hg71
   obtain ⟨c9,hg72,hv1⟩:=bindS hv1
   replace hg72:=iteT hg72
   cases hg72
   obtain ⟨c10,hg73,hv1⟩:=bindS hv1
   replace hg73:=iteT hg73
   cases hg73
   obtain ⟨c11,hg74,hv1⟩:=bindS hv1
   replace hg74:=iteT hg74
   cases hg74
   obtain ⟨c12,hg75,hv1⟩:=bindS hv1
   replace hg75:=iteT hg75
   cases hg75
   obtain ⟨c13,hg76,hv1⟩:=bindS hv1
   replace hg76:=iteT hg76
   cases hg76
   obtain ⟨c14,hg77,hv1⟩:=bindS hv1
   replace hg77:=iteT hg77
   cases hg77
   cases hv1
   exact wt ⟨lr,Q8⟩ J1 rfl
  cases hg70
  obtain ⟨c8,hg78,hv1⟩:=bindS hv1
  refine Br.itf hg78 (fun hb hg78=>?_) fun hb hg78=>?_
  ·cases hg78
   obtain ⟨c9,hg79,hv1⟩:=bindS hv1
   replace hg79:=iteT hg79
   cases hg79
   obtain ⟨c10,hg80,hv1⟩:=bindS hv1
   replace hg80:=iteT hg80
   cases hg80
   obtain ⟨c11,hg81,hv1⟩:=bindS hv1
   replace hg81:=iteT hg81
   cases hg81
   obtain ⟨c12,hg82,hv1⟩:=bindS hv1
   replace hg82:=iteT hg82
   cases hg82
   obtain ⟨c13,hg83,hv1⟩:=bindS hv1
   replace hg83:=iteT hg83
   cases hg83
   obtain ⟨c14,hg84,hv1⟩:=bindS hv1
   replace hg84:=iteT hg84
   cases hg84
   cases hv1
   exact wt ⟨lr,Q8⟩ J1 rfl
  cases hg78
  obtain ⟨c9,hg85,hv1⟩:=bindS hv1
  refine Br.itf hg85 (fun hb hg85=>?_) fun hb hg85=>?_
  ·cases hg85
   obtain ⟨c10,hg86,hv1⟩:=bindS hv1
   replace hg86:=iteT hg86
   cases hg86
   obtain ⟨c11,hg87,hv1⟩:=bindS hv1
   replace hg87:=iteT hg87
   cases hg87
   obtain ⟨c12,hg88,hv1⟩:=bindS hv1
   replace hg88:=iteT hg88
   cases hg88
   obtain ⟨c13,hg89,hv1⟩:=bindS hv1
   replace hg89:=iteT hg89
   cases hg89
   obtain ⟨c14,hg90,hv1⟩:=bindS hv1
   replace hg90:=iteT hg90
   cases hg90
   cases hv1
   exact wt ⟨lr,Q8⟩ J1 rfl
  cases hg85
  obtain ⟨c10,hg91,hv1⟩:=bindS hv1
  refine Br.itf hg91 (fun hb hg91=>?_) fun hb hg91=>?_
  ·cases hg91
   obtain ⟨c11,hg92,hv1⟩:=bindS hv1
   replace hg92:=iteT hg92
   cases hg92
   obtain ⟨c12,hg93,hv1⟩:=bindS hv1
   replace hg93:=iteT hg93
   cases hg93
   obtain ⟨c13,hg94,hv1⟩:=bindS hv1
   replace hg94:=iteT hg94
   cases hg94
   obtain ⟨c14,hg95,hv1⟩:=bindS hv1
   replace hg95:=iteT hg95
   cases hg95
   cases hv1
   exact wt ⟨lr,Q8⟩ J1 rfl
  cases hg91
  obtain ⟨c11,hg96,hv1⟩:=bindS hv1
  refine Br.itf hg96 (fun hb hg96=>?_) fun hb hg96=>?_
  ·cases hg96
   obtain ⟨c12,hg97,hv1⟩:=bindS hv1
   replace hg97:=iteT hg97
   cases hg97
   obtain ⟨c13,hg98,hv1⟩:=bindS hv1
   replace hg98:=iteT hg98
   cases hg98
   obtain ⟨c14,hg99,hv1⟩:=bindS hv1
   replace hg99:=iteT hg99
   cases hg99
   cases hv1
   exact wt ⟨lr,Q8⟩ J1 rfl
  cases hg96
  obtain ⟨c12,hg100,hv1⟩:=bindS hv1
  refine Br.itf hg100 (fun hb hg100=>?_) fun hb hg100=>?_
  ·cases hg100
   obtain ⟨c13,hg101,hv1⟩:=bindS hv1
   replace hg101:=iteT hg101
   cases hg101
   obtain ⟨c14,hg102,hv1⟩:=bindS hv1
   replace hg102:=iteT hg102
   cases hg102
   cases hv1
   exact wt ⟨lr,Q8⟩ J1 rfl
  cases hg100
  obtain ⟨c13,hg103,hv1⟩:=bindS hv1
  refine Br.itf hg103 (fun hb hg103=>?_) fun hb hg103=>?_
  ·cases hg103
   obtain ⟨c14,hg104,hv1⟩:=bindS hv1
   replace hg104:=iteT hg104
   cases hg104
   cases hv1
   exact wt ⟨lr,Q8⟩ J1 rfl
  cases hg103
  obtain ⟨c14,hg105,hv1⟩:=bindS hv1
  refine Br.itf hg105 (fun hb hg105=>?_) fun hb hg105=>?_
  ·cases hg105
   cases hv1
   exact wt ⟨lr,Q8⟩ J1 rfl
  cases hg105
  cases hv1
  exact wt ⟨lr,Q8⟩ J1 rfl
 refine cn 226 (v1) rfl h (fun hb h=>?_) fun hb h=>?_
 ·refine sg ?_
  refine wE [(0,vb false)] Q1 ?_
  refine rt ?_
  cases h
  exact Fz.v
 refine sk ?_
 obtain ⟨v2,hv2,h⟩:=bindS h
 refine Ok.seqw ⟨Cat.tab [(0,vb v2)],[]⟩ ?_ ?_
 ·refine rg ?_
  obtain ⟨c15,hg106,hv2⟩:=bindS hv2
  refine Br.ite hg106 (fun hb hg106=>?_) fun hb hg106=>?_
  ·cases hg106
   obtain ⟨c16,hg107,hv2⟩:=bindS hv2
   refine Br.ite hg107 (fun hb hg107=>?_) fun hb hg107=>?_
   ·cases hg107
    obtain ⟨c17,hg108,hv2⟩:=bindS hv2
    refine Br.ite hg108 (fun hb hg108=>?_) fun hb hg108=>?_
    ·cases hg108
     obtain ⟨c18,hg109,hv2⟩:=bindS hv2
     refine Br.ite hg109 (fun hb hg109=>?_) fun hb hg109=>?_
     ·cases hg109
      obtain ⟨c19,hg110,hv2⟩:=bindS hv2
      refine Br.ite hg110 (fun hb hg110=>?_) fun hb hg110=>?_
      ·cases hg110
       obtain ⟨c20,hg111,hv2⟩:=bindS hv2
       refine Br.ite hg111 (fun hb hg111=>?_) fun hb hg111=>?_
       ·obtain ⟨x31,hx31,hg111⟩:=bindS hg111
        refine ⟨_,rfl,?_⟩
        refine CallOk.call (w_chainN10 hx31) (LeL.refl _) ?_
        cases hg111
        obtain ⟨c21,hg112,hv2⟩:=bindS hv2
        refine Br.ite hg112 (fun hb hg112=>?_) fun hb hg112=>?_
        ·obtain ⟨x32,hx32,hg112⟩:=bindS hg112
         refine CallOk.call (w_chainN10 hx32) (.cons (Le.a (.cons (lr) (.cons (lr) (.cons (Le.nil) (.nil))))) (.cons (lr) (.nil))) ?_
         cases hg112
         cases hv2
         exact wt Q1 Q0 rfl
        cases hg112
        cases hv2
        exact wt Q1 Q0 rfl
       cases hg111
       obtain ⟨c21,hg113,hv2⟩:=bindS hv2
       replace hg113:=iteF hg113
       cases hg113
       cases hv2
       exact wt Q1 Q0 rfl
      cases hg110
      obtain ⟨c20,hg114,hv2⟩:=bindS hv2
      replace hg114:=iteF hg114
      cases hg114
      obtain ⟨c21,hg115,hv2⟩:=bindS hv2
      replace hg115:=iteF hg115
      cases hg115
      cases hv2
      exact wt Q1 Q0 rfl
     cases hg109
     obtain ⟨c19,hg116,hv2⟩:=bindS hv2
     replace hg116:=iteF hg116
     cases hg116
     obtain ⟨c20,hg117,hv2⟩:=bindS hv2
     replace hg117:=iteF hg117
     cases hg117
     obtain ⟨c21,hg118,hv2⟩:=bindS hv2
     replace hg118:=iteF hg118
     cases hg118
     cases hv2
     exact wt Q1 Q0 rfl
    cases hg108
    obtain ⟨c18,hg119,hv2⟩:=bindS hv2
    replace hg119:=iteF hg119
    cases hg119
    obtain ⟨c19,hg120,hv2⟩:=bindS hv2
    replace hg120:=iteF hg120
    cases hg120
    obtain ⟨c20,hg121,hv2⟩:=bindS hv2
    replace hg121:=iteF hg121
    cases hg121
    obtain ⟨c21,hg122,hv2⟩:=bindS hv2
    replace hg122:=iteF hg122
    cases hg122
    cases hv2
    exact wt Q1 Q0 rfl
   cases hg107
   obtain ⟨c17,hg123,hv2⟩:=bindS hv2
   replace hg123:=iteF hg123
   cases hg123
   obtain ⟨c18,hg124,hv2⟩:=bindS hv2
   replace hg124:=iteF hg124
   cases hg124
   obtain ⟨c19,hg125,hv2⟩:=bindS hv2
   replace hg125:=iteF hg125
   cases hg125
   obtain ⟨c20,hg126,hv2⟩:=bindS hv2
   replace hg126:=iteF hg126
   cases hg126
   obtain ⟨c21,hg127,hv2⟩:=bindS hv2
   replace hg127:=iteF hg127
   cases hg127
   cases hv2
   exact wt Q1 Q0 rfl
  cases hg106
  obtain ⟨c16,hg128,hv2⟩:=bindS hv2
  replace hg128:=iteF hg128
  cases hg128
  obtain ⟨c17,hg129,hv2⟩:=bindS hv2
  replace hg129:=iteF hg129
  cases hg129
  obtain ⟨c18,hg130,hv2⟩:=bindS hv2
  replace hg130:=iteF hg130
  cases hg130
  obtain ⟨c19,hg131,hv2⟩:=bindS hv2
  replace hg131:=iteF hg131
  cases hg131
  obtain ⟨c20,hg132,hv2⟩:=bindS hv2
  replace hg132:=iteF hg132
  cases hg132
  obtain ⟨c21,hg133,hv2⟩:=bindS hv2
  replace hg133:=iteF hg133
  cases hg133
  cases hv2
  exact wt Q1 Q0 rfl
 refine rt ?_
 cases h
 exact Fz.v
theorem wo_law26N1 {p_n} {r} (h:law26_bytes p_n=some r):POwn Tryz.prog 46 [(vi p_n)] 5 1 (mU r):=by
 refine pw Tryz.tok 23 Tryz.func46 (by kernel_rfl) rfl rfl rfl ?_
 unfold law26_bytes at h
 refine wE [(0,vi p_n)] Q1 ?_
 refine sg ?_
 refine wE [(0,vi p_n)] Q1 ?_
 refine sg ?_
 refine ⟨_,toU8_wrap _,Or.inr ?_⟩
 refine wT [(0,vi p_n),(3,.o 7)] [(7,.own 5 1 (mU ([toU8 p_n])))] Q2 J1 rfl ?_
 obtain ⟨v1,hv1,h⟩:=bindS h
 refine Ok.seqw ⟨Cat.tab [(3,.o 7)],[(7,.own 5 1 (mU v1))]⟩ ?_ ?_
 ·refine sg ?_
  refine wT [(0,vi p_n),(3,.o 7),(4,vi (0))] [(7,.own 5 1 (mU ([toU8 p_n])))] Q3 J1 rfl ?_
  refine bl ?_
  refine Ok.loop (fun (s1:Int×(List UInt8))=>⟨Cat.tab [(0,vi p_n),(3,.o 7),(4,vi s1.1)],[(7,.own 5 1 (mU s1.2))]⟩) (law26N6 p_n) (s0:=(0,[toU8 p_n])) hv1 (wt Q3 ⟨⟨_,rfl,.refl _⟩,Q0⟩ rfl) ?_
  intro s1 y1 hB1 hy1
  unfold law26N6 at hB1
  refine sq ?_
  refine sg ?_
  obtain ⟨hc1,hB1⟩:=chk_some hB1
  refine (Or.inl ⟨hc1,(by decide),_,rfl,?_⟩)
  refine wT [(0,vi p_n),(3,.o 7),(4,vi s1.1),(12,vb (decide (s1.1 < (Int.tmod (p_n * 7) (60)))))] [(7,.own 5 1 (mU s1.2))] Q4 J1 rfl ?_
  refine cn 12 (decide (s1.1 < (Int.tmod (p_n * 7) (60)))) rfl hB1 (fun hb hB1=>?_) fun hb hB1=>?_
  ·refine sk ?_
   refine sq ?_
   refine bl ?_
   refine rg ?_
   obtain ⟨hc2,hB1⟩:=chk_some hB1
   obtain ⟨hc3,hB1⟩:=chk_some hB1
   refine (Or.inl ⟨hc2,_,toU8_wrap _,Or.inl ⟨rowsLen_map (f:=cU8) (n:=1) (fun _=>rfl) ([toU8 (p_n * s1.1)]),app_b2 (f:=cU8) (l:=s1.2) (l':=[toU8 (p_n * s1.1)]) hc3,_,(List.map_append (f:=cU8) (l₁:=s1.2) (l₂:=[toU8 (p_n * s1.1)])).symm,?_⟩⟩)
   refine wT [(0,vi p_n),(3,.o 7),(4,vi s1.1)] [(7,.own 5 1 (mU (s1.2++[toU8 (p_n * s1.1)])))] Q3 J1 rfl ?_
   refine rg ?_
   obtain ⟨hc4,hB1⟩:=chk_some hB1
   refine (Or.inl ⟨hc4,?_⟩)
   exact ⟨_,sj hB1,wt Q3 J1 rfl⟩
  refine xt ?_
  have hB1:=out_ret hB1 hy1
  cases hB1
  exact wt Q1 J1 rfl
 refine sg ?_
 refine wT [(2,.o 7)] [(7,.own 5 1 (mU v1))] Q1 J1 rfl ?_
 refine rt ?_
 cases h
 exact (.inr ⟨_,rfl,rfl⟩)
theorem w_law26N3 {p_n} {r} (h:law26_bytes p_n=some r):Pure Tryz.prog 46 [(vi p_n)] (.s (mU r)):=(wo_law26N1 h).pure
theorem w_law26N2 [Off] {p_length} {r} (h:law26_Fresh p_length=some r):Pure Tryz.prog 20 [(vu p_length)] (.a [(vi r.C.Id),(vi r.C.Ver),(.s (mI r.C.Servers)),(.s (mA r.Disks)),(vi r.Begun),(vi r.Ack),(vi r.Read)]):=by
 refine po Tryz.tok 43 Tryz.func20 (by kernel_rfl) rfl rfl rfl ?_
 unfold law26_Fresh at h
 refine wE [(0,vu p_length)] Q1 ?_
 refine sg ?_
 refine wT [(0,vu p_length),(2,.b 2 0)] [(2,.box [vi (0),vi (0),.v (.slice none 0 0),.v (.slice none 0 0),vi (0),vi (0),vi (0)])] Q2 J1 rfl ?_
 refine sg ?_
 refine sg ?_
 refine wT [(0,vu p_length),(2,.b 2 0),(3,.b 3 0),(4,.v (.slice none 0 0))] [(2,.box [vi (0),vi (0),.v (.slice none 0 0),.v (.slice none 0 0),vi (0),vi (0),vi (0)]),(3,.box [vi (0),vi (0),.v (.slice none 0 0),.v (.slice none 0 0),vi (0),vi (0),vi (0)])] Q4 J2 rfl ?_
 obtain ⟨v1,hv1,h⟩:=bindS h
 refine Ok.seqw ⟨Cat.tab [(2,.b 2 0),(3,.b 3 0),(4,.o 28)],[(2,.box [vi (0),vi (0),.v (.slice none 0 0),.v (.slice none 0 0),vi (0),vi (0),vi (0)]),(3,.box [vi (0),vi (0),.v (.slice none 0 0),.o 17,vi (0),vi (0),vi (0)]),(17,.own 29 3 (mA v1.2)),(28,.own 3 1 (mI v1.1))]⟩ ?_ ?_
 ·refine sg ?_
  refine wT [(0,vu p_length),(2,.b 2 0),(3,.b 3 0),(4,.v (.slice none 0 0)),(5,vi (0))] [(2,.box [vi (0),vi (0),.v (.slice none 0 0),.v (.slice none 0 0),vi (0),vi (0),vi (0)]),(3,.box [vi (0),vi (0),.v (.slice none 0 0),.v (.slice none 0 0),vi (0),vi (0),vi (0)])] Q5 J2 rfl ?_
  refine bl ?_
  refine Ok.loop (fun (s1:Int×(List Int)×(List api_Disk))=>⟨Cat.tab [(0,vu p_length),(2,.b 2 0),(3,.b 3 0),(4,.o 28),(5,vi s1.1)],[(2,.box [vi (0),vi (0),.v (.slice none 0 0),.v (.slice none 0 0),vi (0),vi (0),vi (0)]),(3,.box [vi (0),vi (0),.v (.slice none 0 0),.o 17,vi (0),vi (0),vi (0)]),(17,.own 29 3 (mA s1.2.2)),(28,.own 3 1 (mI s1.2.1))]⟩) (law26N4 p_length) (s0:=(0,[],[])) hv1 ((Wk.own0 (t:=4) (id:=28) (E:=3) (K:=1) rfl rfl).trans ((Wk.ownb (b:=3) (q:=3) (id:=17) (E:=29) (K:=3) rfl rfl rfl).trans (wt Q5 ⟨⟨_,rfl,.refl _⟩,⟨_,rfl,.refl _⟩,⟨_,rfl,.refl _⟩,⟨_,rfl,.refl _⟩,Q0⟩ rfl))) ?_
  intro s1 y1 hB1 hy1
  unfold law26N4 at hB1
  refine sq ?_
  refine sg ?_
  refine cn 10 (decide (s1.1 < 6)) rfl hB1 (fun hb hB1=>?_) fun hb hB1=>?_
  ·refine sk ?_
   obtain ⟨v2,hv2,hB1⟩:=bindS hB1
   refine Ok.seqw ⟨Cat.tab [(0,vu p_length),(2,.b 2 0),(3,.b 3 0),(4,.o 28),(5,vi s1.1)],[(2,.box [vi (0),vi (0),.v (.slice none 0 0),.v (.slice none 0 0),vi (0),vi (0),vi (0)]),(3,.box [vi (0),vi (0),.v (.slice none 0 0),.o 17,vi (0),vi (0),vi (0)]),(17,.own 29 3 (mA v2.2)),(28,.own 3 1 (mI v2.1))]⟩ ?_ ?_
   ·refine bl ?_
    refine sq ?_
    refine Ok.draw (m:=4) (MD:=⟨[]⟩) (CH:=⟨[]⟩) Tryz.tok Tryz.mixed (by kernel_rfl) ?_
    obtain ⟨x1,hx1,hv2⟩:=bindS hv2
    obtain ⟨hc1,hv2⟩:=chk_some hv2
    refine ⟨_,rfl,_,⟨_,rfl,rfl⟩,_,⟨_,.of_pure (w_disk_New hx1) (LeL.refl _),rfl⟩,_,rfl,Q0,rowsLen_map (f:=c_api_Disk) (n:=3) (fun _=>rfl) ([x1]),app_b2 (f:=c_api_Disk) (l:=s1.2.2) (l':=[x1]) hc1,_,(List.map_append (f:=c_api_Disk) (l₁:=s1.2.2) (l₂:=[x1])).symm,_,rfl,?_⟩
    refine wT [(0,vu p_length),(2,.b 2 0),(3,.b 3 0),(4,.o 28),(5,vi s1.1)] [(2,.box [vi (0),vi (0),.v (.slice none 0 0),.v (.slice none 0 0),vi (0),vi (0),vi (0)]),(3,.box [vi (0),vi (0),.v (.slice none 0 0),.o 17,vi (0),vi (0),vi (0)]),(17,.own 29 3 (mA (s1.2.2++[x1]))),(28,.own 3 1 (mI s1.2.1))] Q5 J4 rfl ?_
    refine sg ?_
    obtain ⟨hc2,hv2⟩:=chk_some hv2
    refine ⟨_,wrap_of_u8 (k:=.i64) (by decide) _,(by decide),_,rfl,(Or.inl ⟨hc2,?_⟩)⟩
    refine cn 24 (decide (s1.1 < ((Int.tmod (p_length.toNat:Int) (5))+1))) rfl hv2 (fun hb hv2=>?_) fun hb hv2=>?_
    ·refine rg ?_
     obtain ⟨hc3,hv2⟩:=chk_some hv2
     refine Or.inl ⟨rowsLen_map (f:=Go.Cat.encI) (n:=1) (fun _=>rfl) ([s1.1]),app_b2 (f:=Go.Cat.encI) (l:=s1.2.1) (l':=[s1.1]) hc3,_,(List.map_append (f:=Go.Cat.encI) (l₁:=s1.2.1) (l₂:=[s1.1])).symm,?_⟩
     cases hv2
     exact wt Q5 J4 rfl
    refine sk ?_
    cases hv2
    exact wt Q5 J4 rfl
   refine rg ?_
   obtain ⟨hc4,hB1⟩:=chk_some hB1
   refine (Or.inl ⟨hc4,?_⟩)
   exact ⟨_,sj hB1,wt Q5 J4 rfl⟩
  refine xt ?_
  have hB1:=out_ret hB1 hy1
  cases hB1
  exact wt Q3 J4 rfl
 refine sq ?_
 refine Ok.wk (Wk.freeze (id:=17) rfl) ?_
 refine Ok.wk (Wk.freeze (id:=28) rfl) ?_
 refine Ok.chain (chain:=[(9,[0,1,2,3,4,5,6,7,8,11,12]),(10,[7,8,11,12])]) Tryz.tok Tryz.mixed (by kernel_rfl) ?_
 obtain ⟨x2,hx2,h⟩:=bindS h
 obtain ⟨x3,hx3,h⟩:=bindS h
 refine ⟨_,rfl,_,rfl,_,⟨_,rfl,rfl⟩,_,⟨_,.of_pure (w_law26N3 hx2) (LeL.refl _),rfl⟩,_,⟨_,.of_pure (w_chainN4 hx3) (LeL.refl _),rfl⟩,_,rfl,_,rfl,_,rfl,_,rfl,_,rfl,_,rfl,⟨⟨_,rfl,rfl⟩,⟨_,rfl,rfl⟩,⟨_,rfl,_,rfl,rfl⟩,⟨_,rfl,_,.of_pure (w_law26N3 hx2) (LeL.refl _),rfl⟩,⟨_,rfl,_,.of_pure (w_chainN4 hx3) (LeL.refl _),rfl⟩,⟨_,rfl,rfl⟩,⟨_,rfl,rfl⟩,⟨_,rfl,rfl⟩,⟨_,rfl,rfl⟩,⟨_,rfl,rfl⟩,⟨_,rfl,rfl⟩,Q0⟩,_,rfl,⟨⟨_,rfl,rfl⟩,⟨_,rfl,rfl⟩,⟨_,rfl,rfl⟩,⟨_,rfl,rfl⟩,Q0⟩,?_⟩
 refine wT [(2,.b 2 0),(3,.b 3 0),(6,.b 6 0),(7,.s (mA x3.2.1))] [(2,.box [vi (0),vi (0),.v (.slice none 0 0),.v (.slice none 0 0),vi (0),vi (0),vi (0)]),(3,.box [vi (0),vi (0),.v (.slice none 0 0),.s (mA v1.2),vi (0),vi (0),vi (0)]),(6,.box [vi x3.1.Id,vi x3.1.Ver,.s (mI x3.1.Servers)])] Q4 J3 rfl ?_
 refine sg ?_
 refine ⟨_,rfl,_,rfl,?_⟩
 refine sg ?_
 refine ⟨_,rfl,?_⟩
 refine wT [(2,.b 2 0),(3,.b 3 0)] [(2,.box [vi (0),vi (0),.v (.slice none 0 0),.v (.slice none 0 0),vi (0),vi (0),vi (0)]),(3,.box [vi x3.1.Id,vi x3.1.Ver,.s (mI x3.1.Servers),.s (mA x3.2.1),vi (0),vi (0),vi (0)])] Q2 J2 rfl ?_
 refine sg ?_
 refine ⟨_,rfl,_,rfl,?_⟩
 refine wT [(2,.b 2 0)] [(2,.box [vi x3.1.Id,vi x3.1.Ver,.s (mI x3.1.Servers),.s (mA x3.2.1),vi (0),vi (0),vi (0)])] Q1 J1 rfl ?_
 refine rt ?_
 cases h
 exact ⟨_,rfl,(Fz.imm rfl)⟩
theorem w_ref26_Has {p_l} {p_x} {r} (h:ref26_Has p_l p_x=some r):Pure Tryz.prog 34 [(.s (mI p_l)),(vi p_x)] (vb r):=by
 refine po Tryz.tok 18 Tryz.func34 (by kernel_rfl) rfl rfl rfl ?_
 unfold ref26_Has at h
 refine wE [(0,.s (mI p_l)),(1,vi p_x)] Q2 ?_
 refine sg ?_
 refine wE [(0,.s (mI p_l)),(1,vi p_x)] Q2 ?_
 refine Ok.seqj (fun v1=>⟨Cat.tab [],[]⟩) (fun v1=>ref26N9 v1=some r) ?_ ?_
 ·refine sg ?_
  refine wE [(0,.s (mI p_l)),(1,vi p_x),(5,vi (0))] Q3 ?_
  refine bl ?_
  refine Ok.loop (fun (s1:Int)=>⟨Cat.tab [(0,.s (mI p_l)),(1,vi p_x),(5,vi s1)],[]⟩) (ref26N8 p_l p_x) (s0:=0) h (wt Q3 Q0 rfl) ?_
  intro s1 y1 hB1 hy1
  unfold ref26N8 at hB1
  refine sq ?_
  refine sg ?_
  refine ⟨_,List.length_map _,fun _=>?_⟩
  refine wE [(0,.s (mI p_l)),(1,vi p_x),(5,vi s1),(9,vb (decide (s1 < (p_l.length:Int))))] Q4 ?_
  refine cn 9 (decide (s1 < (p_l.length:Int))) rfl hB1 (fun hb hB1=>?_) fun hb hB1=>?_
  ·refine sk ?_
   refine sq ?_
   refine bl ?_
   refine sg ?_
   obtain ⟨x1,hx1,hB1⟩:=bindS hB1
   refine ⟨_,idx_nat hx1,_,idx_row hx1,_,rfl,?_⟩
   refine wE [(0,.s (mI p_l)),(1,vi p_x),(5,vi s1),(17,vb (x1 == p_x))] Q4 ?_
   refine cn 17 (x1 == p_x) rfl hB1 (fun hb hB1=>?_) fun hb hB1=>?_
   ·refine sg ?_
    refine wE [(4,vb true)] Q1 ?_
    refine rt ?_
    have hB1:=out_ret hB1 hy1
    cases hB1
    exact Fz.v
   refine sk ?_
   refine rg ?_
   obtain ⟨hc1,hB1⟩:=chk_some hB1
   refine (Or.inl ⟨hc1,?_⟩)
   exact ⟨_,sj hB1,wt Q3 Q0 rfl⟩
  refine xt ?_
  have hB1:=out_ret hB1 hy1
  exact ⟨_,hB1,wt Q0 Q0 rfl⟩
 intro v1 h
 unfold ref26N9 at h
 refine sg ?_
 refine wE [(4,vb false)] Q1 ?_
 refine rt ?_
 cases h
 exact Fz.v
theorem w_ref26N7 {p_c} {p_disks} {r} (h:ref26_Right p_c p_disks=some r):Pure Tryz.prog 15 [(.a [(vi p_c.Id),(vi p_c.Ver),(.s (mI p_c.Servers))]),(.s (mA p_disks))] (vb r):=by
 refine po Tryz.tok 73 Tryz.func15 (by kernel_rfl) rfl rfl rfl ?_
 unfold ref26_Right at h
 refine wE [(0,.a [vi p_c.Id,vi p_c.Ver,.s (mI p_c.Servers)]),(1,.s (mA p_disks))] Q2 ?_
 refine sg ?_
 refine wT [(1,.s (mA p_disks)),(2,.b 2 0)] [(2,.box [vi p_c.Id,vi p_c.Ver,.s (mI p_c.Servers)])] Q2 J1 rfl ?_
 refine Ok.seqj (fun v1=>⟨Cat.tab [(2,.b 2 0)],[(2,.box [vi p_c.Id,vi p_c.Ver,.s (mI p_c.Servers)])]⟩) (fun v1=>ref26N32 p_c v1=some r) ?_ ?_
 ·refine sg ?_
  refine wT [(1,.s (mA p_disks)),(2,.b 2 0),(5,vi (0))] [(2,.box [vi p_c.Id,vi p_c.Ver,.s (mI p_c.Servers)])] Q3 J1 rfl ?_
  refine bl ?_
  refine Ok.loop (fun (s1:Int)=>⟨Cat.tab [(1,.s (mA p_disks)),(2,.b 2 0),(5,vi s1)],[(2,.box [vi p_c.Id,vi p_c.Ver,.s (mI p_c.Servers)])]⟩) (ref26N31 p_c p_disks) (s0:=0) h (wt Q3 ⟨⟨_,rfl,.refl _⟩,Q0⟩ rfl) ?_
  intro s1 y1 hB1 hy1
  unfold ref26N31 at hB1
  refine sq ?_
  refine sg ?_
  refine ⟨_,rfl,_,List.length_map _,fun _=>?_⟩
  refine wT [(1,.s (mA p_disks)),(2,.b 2 0),(5,vi s1),(11,vb (decide (s1 < (p_c.Servers.length:Int))))] [(2,.box [vi p_c.Id,vi p_c.Ver,.s (mI p_c.Servers)])] Q4 J1 rfl ?_
  refine cn 11 (decide (s1 < (p_c.Servers.length:Int))) rfl hB1 (fun hb hB1=>?_) fun hb hB1=>?_
  ·refine sk ?_
   refine sq ?_
   refine bl ?_
   refine sq ?_
   refine Ok.draw (m:=11) (MD:=⟨[]⟩) (CH:=⟨[]⟩) Tryz.tok Tryz.mixed (by kernel_rfl) ?_
   obtain ⟨hc1,hB1⟩:=chk_some hB1
   obtain ⟨x1,hx1,hB1⟩:=bindS hB1
   obtain ⟨x2,hx2,hB1⟩:=bindS hB1
   refine ⟨_,rfl,_,⟨_,rfl,rfl⟩,_,rfl,_,⟨_,sl_nat hc1.1,Nat.zero_le _,sl_len hc1,rowsK (f:=Go.Cat.encI) (K:=1) (fun _=>rfl) p_c.Servers,_,sl_take _ _ _,rfl⟩,_,rfl,_,⟨_,rfl,rfl⟩,_,rfl,_,⟨_,idx_nat hx1,_,idx_row hx1,rfl⟩,_,⟨_,rfl,rfl⟩,_,⟨_,.of_pure (w_ref26_Has hx2) (LeL.refl _),rfl⟩,_,rfl,Q0,?_⟩
   refine wT [(1,.s (mA p_disks)),(2,.b 2 0),(5,vi s1),(6,vb x2)] [(2,.box [vi p_c.Id,vi p_c.Ver,.s (mI p_c.Servers)])] Q4 J1 rfl ?_
   obtain ⟨v2,hv2,hB1⟩:=bindS hB1
   refine Ok.seqw ⟨Cat.tab [(1,.s (mA p_disks)),(2,.b 2 0),(5,vi s1),(42,vb v2)],[(2,.box [vi p_c.Id,vi p_c.Ver,.s (mI p_c.Servers)])]⟩ ?_ ?_
   ·refine rg ?_
    obtain ⟨c1,hg1,hv2⟩:=bindS hv2
    refine Br.itf hg1 (fun hb hg1=>?_) fun hb hg1=>?_
    ·cases hg1
     obtain ⟨c2,hg2,hv2⟩:=bindS hv2
     replace hg2:=iteT hg2
     cases hg2
     cases hv2
     exact wt Q4 J1 rfl
    obtain ⟨x3,hx3,hg1⟩:=bindS hg1
    refine ⟨_,rfl,_,idx_nat hx3,_,idx_row hx3,_,rfl,?_⟩
    cases hg1
    obtain ⟨c2,hg3,hv2⟩:=bindS hv2
    refine Br.itf hg3 (fun hb hg3=>?_) fun hb hg3=>?_
    ·cases hg3
     cases hv2
     exact wt Q4 J1 rfl
    obtain ⟨x4,hx4,hg3⟩:=bindS hg3
    refine ⟨_,rfl,_,idx_nat hx4,_,idx_row hx4,_,rfl,_,List.length_map _,fun _=>?_⟩
    cases hg3
    cases hv2
    exact wt Q4 J1 rfl
   refine cn 42 (v2) rfl hB1 (fun hb hB1=>?_) fun hb hB1=>?_
   ·refine sg ?_
    refine wE [(4,vb false)] Q1 ?_
    refine rt ?_
    have hB1:=out_ret hB1 hy1
    cases hB1
    exact Fz.v
   refine sk ?_
   refine rg ?_
   obtain ⟨hc2,hB1⟩:=chk_some hB1
   refine (Or.inl ⟨hc2,?_⟩)
   exact ⟨_,sj hB1,wt Q3 J1 rfl⟩
  refine xt ?_
  have hB1:=out_ret hB1 hy1
  exact ⟨_,hB1,wt Q1 ⟨⟨_,rfl,.refl _⟩,Q0⟩ rfl⟩
 intro v1 h
 unfold ref26N32 at h
 obtain ⟨v3,hv3,h⟩:=bindS h
 refine Ok.seqw ⟨Cat.tab [(4,vb v3)],[]⟩ ?_ ?_
 ·refine rg ?_
  refine ⟨_,rfl,?_⟩
  obtain ⟨c3,hg4,hv3⟩:=bindS hv3
  refine Br.ite hg4 (fun hb hg4=>?_) fun hb hg4=>?_
  ·refine ⟨_,rfl,?_⟩
   cases hg4
   obtain ⟨c4,hg5,hv3⟩:=bindS hv3
   refine Br.ite hg5 (fun hb hg5=>?_) fun hb hg5=>?_
   ·refine ⟨_,rfl,?_⟩
    cases hg5
    obtain ⟨c5,hg6,hv3⟩:=bindS hv3
    refine Br.ite hg6 (fun hb hg6=>?_) fun hb hg6=>?_
    ·refine ⟨_,rfl,?_⟩
     cases hg6
     obtain ⟨c6,hg7,hv3⟩:=bindS hv3
     refine Br.ite hg7 (fun hb hg7=>?_) fun hb hg7=>?_
     ·refine ⟨_,rfl,_,List.length_map _,fun _=>?_⟩
      cases hg7
      obtain ⟨c7,hg8,hv3⟩:=bindS hv3
      refine Br.ite hg8 (fun hb hg8=>?_) fun hb hg8=>?_
      ·refine ⟨_,rfl,_,List.length_map _,fun _=>?_⟩
       cases hg8
       cases hv3
       exact wt Q1 Q0 rfl
      cases hg8
      cases hv3
      exact wt Q1 Q0 rfl
     cases hg7
     obtain ⟨c7,hg9,hv3⟩:=bindS hv3
     replace hg9:=iteF hg9
     cases hg9
     cases hv3
     exact wt Q1 Q0 rfl
    cases hg6
    obtain ⟨c6,hg10,hv3⟩:=bindS hv3
    replace hg10:=iteF hg10
    cases hg10
    obtain ⟨c7,hg11,hv3⟩:=bindS hv3
    replace hg11:=iteF hg11
    cases hg11
    cases hv3
    exact wt Q1 Q0 rfl
   cases hg5
   obtain ⟨c5,hg12,hv3⟩:=bindS hv3
   replace hg12:=iteF hg12
   cases hg12
   obtain ⟨c6,hg13,hv3⟩:=bindS hv3
   replace hg13:=iteF hg13
   cases hg13
   obtain ⟨c7,hg14,hv3⟩:=bindS hv3
   replace hg14:=iteF hg14
   cases hg14
   cases hv3
   exact wt Q1 Q0 rfl
  cases hg4
  obtain ⟨c4,hg15,hv3⟩:=bindS hv3
  replace hg15:=iteF hg15
  cases hg15
  obtain ⟨c5,hg16,hv3⟩:=bindS hv3
  replace hg16:=iteF hg16
  cases hg16
  obtain ⟨c6,hg17,hv3⟩:=bindS hv3
  replace hg17:=iteF hg17
  cases hg17
  obtain ⟨c7,hg18,hv3⟩:=bindS hv3
  replace hg18:=iteF hg18
  cases hg18
  cases hv3
  exact wt Q1 Q0 rfl
 refine rt ?_
 cases h
 exact Fz.v
theorem w_law26_May {p_w} {r} (h:law26_May p_w=some r):Pure Tryz.prog 22 [(.a [(vi p_w.C.Id),(vi p_w.C.Ver),(.s (mI p_w.C.Servers)),(.s (mA p_w.Disks)),(vi p_w.Begun),(vi p_w.Ack),(vi p_w.Read)])] (vb r):=by
 refine po Tryz.tok 16 Tryz.func22 (by kernel_rfl) rfl rfl rfl ?_
 unfold law26_May at h
 refine wE [(0,.a [vi p_w.C.Id,vi p_w.C.Ver,.s (mI p_w.C.Servers),.s (mA p_w.Disks),vi p_w.Begun,vi p_w.Ack,vi p_w.Read])] Q1 ?_
 refine sg ?_
 refine wT [(1,.b 1 0)] [(1,.box [vi p_w.C.Id,vi p_w.C.Ver,.s (mI p_w.C.Servers),.s (mA p_w.Disks),vi p_w.Begun,vi p_w.Ack,vi p_w.Read])] Q1 J1 rfl ?_
 refine sg ?_
 obtain ⟨x1,hx1,h⟩:=bindS h
 refine ⟨_,rfl,_,rfl,?_⟩
 refine CallOk.call (w_ref26N7 hx1) (LeL.refl _) ?_
 refine wT [(1,.b 1 0),(3,vb x1)] [(1,.box [vi p_w.C.Id,vi p_w.C.Ver,.s (mI p_w.C.Servers),.s (mA p_w.Disks),vi p_w.Begun,vi p_w.Ack,vi p_w.Read])] Q2 J1 rfl ?_
 obtain ⟨v1,hv1,h⟩:=bindS h
 refine Ok.seqw ⟨Cat.tab [(2,vb v1)],[]⟩ ?_ ?_
 ·refine rg ?_
  obtain ⟨c1,hg1,hv1⟩:=bindS hv1
  refine Br.ite hg1 (fun hb hg1=>?_) fun hb hg1=>?_
  ·refine ⟨_,rfl,_,List.length_map _,fun _=>?_⟩
   cases hg1
   cases hv1
   exact wt Q1 Q0 rfl
  cases hg1
  cases hv1
  exact wt Q1 Q0 rfl
 refine rt ?_
 cases h
 exact Fz.v
theorem w_diskN1 [Off] {p_d} {p_keep} {r} (h:disk_Crash p_d p_keep=some r):Pure Tryz.prog 47 [(.a [(.s (mB p_d.Synced)),(.s (mB p_d.Loose)),(vb p_d.Down)]),(vi p_keep)] (.a [(.s (mB r.Synced)),(.s (mB r.Loose)),(vb r.Down)]):=by
 refine po Tryz.tok 19 Tryz.func47 (by kernel_rfl) rfl rfl rfl ?_
 unfold disk_Crash at h
 refine wE [(0,.a [.s (mB p_d.Synced),.s (mB p_d.Loose),vb p_d.Down]),(1,vi p_keep)] Q2 ?_
 refine sg ?_
 refine wT [(1,vi p_keep),(2,.b 2 0),(4,.b 4 0)] [(2,.box [.s (mB p_d.Synced),.s (mB p_d.Loose),vb p_d.Down]),(4,.box [.v (.slice none 0 0),.v (.slice none 0 0),vb false])] Q3 J2 rfl ?_
 refine sg ?_
 refine ⟨_,rfl,_,rfl,_,List.length_map _,fun _=>⟨_,rfl,?_⟩⟩
 refine sq ?_
 refine Ok.draw (m:=8) (MD:=⟨[]⟩) (CH:=⟨[]⟩) Tryz.tok Tryz.mixed (by kernel_rfl) ?_
 obtain ⟨hc1,h⟩:=chk_some h
 obtain ⟨x1,hx1,h⟩:=bindS h
 refine ⟨_,rfl,_,⟨_,rfl,rfl⟩,_,rfl,_,⟨_,rfl,rfl⟩,_,rfl,_,⟨_,sl_nat hc1.1,Nat.zero_le _,sl_len hc1,rowsK (f:=c_api_Page) (K:=2) (fun _=>rfl) p_d.Loose,_,sl_take _ _ _,rfl⟩,_,⟨_,.of_pure (w_disk_laid hx1) (LeL.refl _),rfl⟩,_,rfl,Q0,_,rfl,?_⟩
 refine wT [(4,.b 4 0)] [(4,.box [.s (mB x1),.v (.slice none 0 0),vb true])] Q1 J1 rfl ?_
 refine rt ?_
 cases h
 exact ⟨_,rfl,(Fz.a (.cons Fz.s (.cons Fz.nil (.cons Fz.v .nil))))⟩
theorem w_disk_Up {p_d} {r} (h:disk_Up p_d=some r):Pure Tryz.prog 48 [(.a [(.s (mB p_d.Synced)),(.s (mB p_d.Loose)),(vb p_d.Down)])] (.a [(.s (mB r.Synced)),(.s (mB r.Loose)),(vb r.Down)]):=by
 refine po Tryz.tok 5 Tryz.func48 (by kernel_rfl) rfl rfl rfl ?_
 unfold disk_Up at h
 refine wE [(0,.a [.s (mB p_d.Synced),.s (mB p_d.Loose),vb p_d.Down])] Q1 ?_
 refine sg ?_
 refine wT [(1,.b 1 0),(2,.b 2 0)] [(1,.box [.s (mB p_d.Synced),.s (mB p_d.Loose),vb p_d.Down]),(2,.box [.v (.slice none 0 0),.v (.slice none 0 0),vb false])] Q2 J2 rfl ?_
 refine sg ?_
 refine ⟨_,rfl,?_⟩
 refine wT [(1,.b 1 0),(2,.b 2 0)] [(1,.box [.s (mB p_d.Synced),.s (mB p_d.Loose),vb false]),(2,.box [.v (.slice none 0 0),.v (.slice none 0 0),vb false])] Q2 J2 rfl ?_
 refine sg ?_
 refine ⟨_,rfl,_,rfl,?_⟩
 refine wT [(2,.b 2 0)] [(2,.box [.s (mB p_d.Synced),.s (mB p_d.Loose),vb false])] Q1 J1 rfl ?_
 refine rt ?_
 cases h
 exact ⟨_,rfl,(Fz.imm rfl)⟩
theorem w_ref04N4 {p_d} {p_at} {r} (h:ref04_Read p_d p_at=some r):Pure Tryz.prog 74 [(.a [(.s (mB p_d.Synced)),(.s (mB p_d.Loose)),(vb p_d.Down)]),(vi p_at)] (.t [(.s (mU r.1)),(vi r.2)]):=by
 refine po Tryz.tok 59 Tryz.func74 (by kernel_rfl) rfl rfl rfl ?_
 unfold ref04_Read at h
 refine wE [(0,.a [.s (mB p_d.Synced),.s (mB p_d.Loose),vb p_d.Down]),(1,vi p_at)] Q2 ?_
 refine sg ?_
 refine wT [(1,vi p_at),(2,.b 2 0)] [(2,.box [.s (mB p_d.Synced),.s (mB p_d.Loose),vb p_d.Down])] Q2 J1 rfl ?_
 refine sq ?_
 refine sg ?_
 refine ⟨_,rfl,?_⟩
 refine wT [(1,vi p_at),(2,.b 2 0),(9,vb p_d.Down)] [(2,.box [.s (mB p_d.Synced),.s (mB p_d.Loose),vb p_d.Down])] Q3 J1 rfl ?_
 refine cn 9 (p_d.Down) rfl h (fun hb h=>?_) fun hb h=>?_
 ·refine sg ?_
  refine wE [(4,.v (.slice none 0 0)),(5,vi (40))] Q2 ?_
  refine rt ?_
  cases h
  exact (Fz.t (.cons Fz.nil (.cons Fz.v .nil)))
 refine sk ?_
 refine sq ?_
 obtain ⟨v1,hv1,h⟩:=bindS h
 refine Ok.seqw ⟨Cat.tab [(1,vi p_at),(2,.b 2 0),(15,vb v1)],[(2,.box [.s (mB p_d.Synced),.s (mB p_d.Loose),vb p_d.Down])]⟩ ?_ ?_
 ·refine rg ?_
  obtain ⟨c1,hg1,hv1⟩:=bindS hv1
  refine Br.itf hg1 (fun hb hg1=>?_) fun hb hg1=>?_
  ·cases hg1
   cases hv1
   exact wt Q3 J1 rfl
  cases hg1
  cases hv1
  exact wt Q3 J1 rfl
 refine cn 15 (v1) rfl h (fun hb h=>?_) fun hb h=>?_
 ·refine sg ?_
  refine wE [(4,.v (.slice none 0 0)),(5,vi (1))] Q2 ?_
  refine rt ?_
  cases h
  exact (Fz.t (.cons Fz.nil (.cons Fz.v .nil)))
 refine sk ?_
 refine Ok.seqj (fun v2=>⟨Cat.tab [(1,vi p_at),(2,.b 2 0)],[(2,.box [.s (mB p_d.Synced),.s (mB p_d.Loose),vb p_d.Down])]⟩) (fun v2=>ref04N12 p_d p_at v2=some r) ?_ ?_
 ·refine sg ?_
  obtain ⟨hc1,h⟩:=chk_some h
  refine ⟨_,rfl,_,List.length_map _,fun _=>(Or.inl ⟨hc1,?_⟩)⟩
  refine wT [(1,vi p_at),(2,.b 2 0),(6,vi ((p_d.Loose.length:Int) - 1))] [(2,.box [.s (mB p_d.Synced),.s (mB p_d.Loose),vb p_d.Down])] Q3 J1 rfl ?_
  refine bl ?_
  refine Ok.loop (fun (s1:Int)=>⟨Cat.tab [(1,vi p_at),(2,.b 2 0),(6,vi s1)],[(2,.box [.s (mB p_d.Synced),.s (mB p_d.Loose),vb p_d.Down])]⟩) (ref04N10 p_d p_at) (s0:=(p_d.Loose.length:Int) - 1) h (wt Q3 ⟨⟨_,rfl,.refl _⟩,Q0⟩ rfl) ?_
  intro s1 y1 hB1 hy1
  unfold ref04N10 at hB1
  refine sq ?_
  refine sg ?_
  refine wT [(1,vi p_at),(2,.b 2 0),(6,vi s1),(21,vb (decide (s1≥0)))] [(2,.box [.s (mB p_d.Synced),.s (mB p_d.Loose),vb p_d.Down])] Q4 J1 rfl ?_
  refine cn 21 (decide (s1≥0)) rfl hB1 (fun hb hB1=>?_) fun hb hB1=>?_
  ·refine sk ?_
   refine sq ?_
   refine bl ?_
   refine sg ?_
   obtain ⟨x1,hx1,hB1⟩:=bindS hB1
   refine ⟨_,rfl,_,idx_nat hx1,_,idx_row hx1,_,rfl,?_⟩
   refine wT [(1,vi p_at),(2,.b 2 0),(6,vi s1),(31,vb (x1.At == p_at))] [(2,.box [.s (mB p_d.Synced),.s (mB p_d.Loose),vb p_d.Down])] Q4 J1 rfl ?_
   refine cn 31 (x1.At == p_at) rfl hB1 (fun hb hB1=>?_) fun hb hB1=>?_
   ·refine sg ?_
    obtain ⟨x2,hx2,hB1⟩:=bindS hB1
    refine ⟨_,rfl,_,idx_nat hx2,_,idx_row hx2,_,rfl,?_⟩
    refine wE [(4,.s (mU x2.Data)),(5,vi (0))] Q2 ?_
    refine rt ?_
    have hB1:=out_ret hB1 hy1
    cases hB1
    exact (Fz.t (.cons Fz.s (.cons Fz.v .nil)))
   refine sk ?_
   refine rg ?_
   obtain ⟨hc2,hB1⟩:=chk_some hB1
   refine (Or.inl ⟨hc2,?_⟩)
   exact ⟨_,sj hB1,wt Q3 J1 rfl⟩
  refine xt ?_
  have hB1:=out_ret hB1 hy1
  exact ⟨_,hB1,wt Q2 ⟨⟨_,rfl,.refl _⟩,Q0⟩ rfl⟩
 intro v2 h
 unfold ref04N12 at h
 refine Ok.seqj (fun v3=>⟨Cat.tab [],[]⟩) (fun v3=>ref04N13 v3=some r) ?_ ?_
 ·refine sg ?_
  refine wT [(1,vi p_at),(2,.b 2 0),(7,vi (0))] [(2,.box [.s (mB p_d.Synced),.s (mB p_d.Loose),vb p_d.Down])] Q3 J1 rfl ?_
  refine bl ?_
  refine Ok.loop (fun (s2:Int)=>⟨Cat.tab [(1,vi p_at),(2,.b 2 0),(7,vi s2)],[(2,.box [.s (mB p_d.Synced),.s (mB p_d.Loose),vb p_d.Down])]⟩) (ref04N11 p_d p_at) (s0:=0) h (wt Q3 ⟨⟨_,rfl,.refl _⟩,Q0⟩ rfl) ?_
  intro s2 y2 hB2 hy2
  unfold ref04N11 at hB2
  refine sq ?_
  refine sg ?_
  refine ⟨_,rfl,_,List.length_map _,fun _=>?_⟩
  refine wT [(1,vi p_at),(2,.b 2 0),(7,vi s2),(42,vb (decide (s2 < (p_d.Synced.length:Int))))] [(2,.box [.s (mB p_d.Synced),.s (mB p_d.Loose),vb p_d.Down])] Q4 J1 rfl ?_
  refine cn 42 (decide (s2 < (p_d.Synced.length:Int))) rfl hB2 (fun hb hB2=>?_) fun hb hB2=>?_
  ·refine sk ?_
   refine sq ?_
   refine bl ?_
   refine sg ?_
   obtain ⟨x3,hx3,hB2⟩:=bindS hB2
   refine ⟨_,rfl,_,idx_nat hx3,_,idx_row hx3,_,rfl,?_⟩
   refine wT [(1,vi p_at),(2,.b 2 0),(7,vi s2),(52,vb (x3.At == p_at))] [(2,.box [.s (mB p_d.Synced),.s (mB p_d.Loose),vb p_d.Down])] Q4 J1 rfl ?_
   refine cn 52 (x3.At == p_at) rfl hB2 (fun hb hB2=>?_) fun hb hB2=>?_
   ·refine sg ?_
    obtain ⟨x4,hx4,hB2⟩:=bindS hB2
    refine ⟨_,rfl,_,idx_nat hx4,_,idx_row hx4,_,rfl,?_⟩
    refine wE [(4,.s (mU x4.Data)),(5,vi (0))] Q2 ?_
    refine rt ?_
    have hB2:=out_ret hB2 hy2
    cases hB2
    exact (Fz.t (.cons Fz.s (.cons Fz.v .nil)))
   refine sk ?_
   refine rg ?_
   obtain ⟨hc3,hB2⟩:=chk_some hB2
   refine (Or.inl ⟨hc3,?_⟩)
   exact ⟨_,sj hB2,wt Q3 J1 rfl⟩
  refine xt ?_
  have hB2:=out_ret hB2 hy2
  exact ⟨_,hB2,wt Q0 Q0 rfl⟩
 intro v3 h
 unfold ref04N13 at h
 refine sg ?_
 refine wE [(4,.v (.slice none 0 0)),(5,vi (41))] Q2 ?_
 refine rt ?_
 cases h
 exact (Fz.t (.cons Fz.nil (.cons Fz.v .nil)))
theorem w_ref01_zag {p_u} {r} (h:ref01_zag p_u=some r):Pure Tryz.prog 131 [(.v (.int .u64 p_u))] (vi r):=by
 refine po Tryz.tok 14 Tryz.func131 (by kernel_rfl) rfl rfl rfl ?_
 unfold ref01_zag at h
 refine wE [(0,.v (.int .u64 p_u))] Q1 ?_
 refine sg ?_
 refine wE [(0,.v (.int .u64 p_u))] Q1 ?_
 refine sq ?_
 refine sg ?_
 refine ⟨(by decide),_,rfl,?_⟩
 refine wE [(0,.v (.int .u64 p_u)),(5,vb ((Int.tmod p_u (2)) == 1))] Q2 ?_
 refine cn 5 ((Int.tmod p_u (2)) == 1) rfl h (fun hb h=>?_) fun hb h=>?_
 ·refine sg ?_
  obtain ⟨hc1,h⟩:=chk_some h
  obtain ⟨hc2,h⟩:=chk_some h
  refine ⟨(by decide),_,rfl,_,rfl,_,InI64.wrap hc1,(Or.inl ⟨hc2,?_⟩)⟩
  refine wE [(2,vi ((0 - (IntKind.i64.wrap (quoK .u64 p_u (2)))) - 1))] Q1 ?_
  refine rt ?_
  cases h
  exact Fz.v
 refine sk ?_
 refine sg ?_
 refine ⟨(by decide),_,rfl,_,rfl,?_⟩
 refine wE [(2,vi (IntKind.i64.wrap (quoK .u64 p_u (2))))] Q1 ?_
 refine rt ?_
 cases h
 exact Fz.v
theorem w_ref01N2 {p_b} {r} (h:ref01N5 p_b=some r):Pure Tryz.prog 105 [(.s (mU p_b))] (.t [(vi r.1),(.s (mU r.2.1)),(vi r.2.2)]):=by
 refine po Tryz.tok 61 Tryz.func105 (by kernel_rfl) rfl rfl rfl ?_
 unfold ref01N5 at h
 refine wE [(0,.s (mU p_b))] Q1 ?_
 refine sg ?_
 refine wE [(0,.s (mU p_b))] Q1 ?_
 refine sg ?_
 refine wE [(0,.s (mU p_b)),(5,.v (.int .u64 (0)))] Q2 ?_
 refine sg ?_
 refine wE [(0,.s (mU p_b)),(5,.v (.int .u64 (0))),(6,.v (.int .u64 (1)))] Q3 ?_
 refine Ok.seqj (fun v1=>⟨Cat.tab [],[]⟩) (fun v1=>ref01N7 v1=some r) ?_ ?_
 ·refine sg ?_
  refine wE [(0,.s (mU p_b)),(5,.v (.int .u64 (0))),(6,.v (.int .u64 (1))),(7,vi (0))] Q4 ?_
  refine bl ?_
  refine Ok.loop (fun (s1:Int×Int×Int)=>⟨Cat.tab [(0,.s (mU p_b)),(5,.v (.int .u64 s1.1)),(6,.v (.int .u64 s1.2.1)),(7,vi s1.2.2)],[]⟩) (ref01N6 p_b) (s0:=(0,1,0)) h (wt Q4 Q0 rfl) ?_
  intro s1 y1 hB1 hy1
  unfold ref01N6 at hB1
  refine sq ?_
  obtain ⟨v2,hv2,hB1⟩:=bindS hB1
  refine Ok.seqw ⟨Cat.tab [(0,.s (mU p_b)),(5,.v (.int .u64 s1.1)),(6,.v (.int .u64 s1.2.1)),(7,vi s1.2.2),(16,vb v2)],[]⟩ ?_ ?_
  ·refine rg ?_
   refine ⟨_,List.length_map _,fun _=>?_⟩
   obtain ⟨c1,hg1,hv2⟩:=bindS hv2
   refine Br.ite hg1 (fun hb hg1=>?_) fun hb hg1=>?_
   ·cases hg1
    cases hv2
    exact wt Q5 Q0 rfl
   cases hg1
   cases hv2
   exact wt Q5 Q0 rfl
  refine cn 16 (v2) rfl hB1 (fun hb hB1=>?_) fun hb hB1=>?_
  ·refine sk ?_
   refine sq ?_
   refine bl ?_
   refine sg ?_
   obtain ⟨x1,hx1,hB1⟩:=bindS hB1
   refine ⟨_,idx_nat hx1,_,idx_row hx1,_,rfl,(by decide),_,b8_rem _ _,_,wrap_of_u8 (k:=.u64) (by decide) _,?_⟩
   refine wE [(0,.s (mU p_b)),(5,.v (.int .u64 s1.1)),(6,.v (.int .u64 s1.2.1)),(7,vi s1.2.2),(8,.v (.int .u64 ((toU8 (Int.tmod (x1.toNat:Int) (128))).toNat:Int)))] Q5 ?_
   refine sq ?_
   obtain ⟨v3,hv3,hB1⟩:=bindS hB1
   refine Ok.seqw ⟨Cat.tab [(0,.s (mU p_b)),(5,.v (.int .u64 s1.1)),(6,.v (.int .u64 s1.2.1)),(7,vi s1.2.2),(8,.v (.int .u64 ((toU8 (Int.tmod (x1.toNat:Int) (128))).toNat:Int))),(33,vb v3)],[]⟩ ?_ ?_
   ·refine rg ?_
    obtain ⟨c2,hg2,hv3⟩:=bindS hv3
    refine Br.ite hg2 (fun hb hg2=>?_) fun hb hg2=>?_
    ·obtain ⟨x2,hx2,hg2⟩:=bindS hg2
     refine ⟨_,idx_nat hx2,_,idx_row hx2,_,rfl,?_⟩
     cases hg2
     cases hv3
     exact wt Q6 Q0 rfl
    cases hg2
    cases hv3
    exact wt Q6 Q0 rfl
   refine cn 33 (v3) rfl hB1 (fun hb hB1=>?_) fun hb hB1=>?_
   ·refine sg ?_
    refine wE [(2,vi (0)),(3,.v (.slice none 0 0)),(4,vi (11))] Q3 ?_
    refine rt ?_
    have hB1:=out_ret hB1 hy1
    cases hB1
    exact (Fz.t (.cons Fz.v (.cons Fz.nil (.cons Fz.v .nil))))
   refine sk ?_
   refine sg ?_
   refine ⟨_,rfl,_,rfl,?_⟩
   refine wE [(0,.s (mU p_b)),(5,.v (.int .u64 (IntKind.u64.wrap (s1.1+(IntKind.u64.wrap (s1.2.1 * ((toU8 (Int.tmod (x1.toNat:Int) (128))).toNat:Int))))))),(6,.v (.int .u64 s1.2.1)),(7,vi s1.2.2)] Q4 ?_
   refine sg ?_
   refine ⟨_,rfl,?_⟩
   refine sg ?_
   obtain ⟨x3,hx3,hB1⟩:=bindS hB1
   refine ⟨_,idx_nat hx3,_,idx_row hx3,_,rfl,?_⟩
   refine wE [(0,.s (mU p_b)),(5,.v (.int .u64 (IntKind.u64.wrap (s1.1+(IntKind.u64.wrap (s1.2.1 * ((toU8 (Int.tmod (x1.toNat:Int) (128))).toNat:Int))))))),(6,.v (.int .u64 (IntKind.u64.wrap (s1.2.1 * 128)))),(7,vi s1.2.2),(45,vb (decide ((x3.toNat:Int) < 128)))] Q5 ?_
   refine cn 45 (decide ((x3.toNat:Int) < 128)) rfl hB1 (fun hb hB1=>?_) fun hb hB1=>?_
   ·refine sq ?_
    obtain ⟨v4,hv4,hB1⟩:=bindS hB1
    refine Ok.seqw ⟨Cat.tab [(0,.s (mU p_b)),(5,.v (.int .u64 (IntKind.u64.wrap (s1.1+(IntKind.u64.wrap (s1.2.1 * ((toU8 (Int.tmod (x1.toNat:Int) (128))).toNat:Int))))))),(7,vi s1.2.2),(54,vb v4)],[]⟩ ?_ ?_
    ·refine rg ?_
     obtain ⟨c3,hg3,hv4⟩:=bindS hv4
     refine Br.ite hg3 (fun hb hg3=>?_) fun hb hg3=>?_
     ·obtain ⟨x4,hx4,hg3⟩:=bindS hg3
      refine ⟨_,idx_nat hx4,_,idx_row hx4,_,rfl,?_⟩
      cases hg3
      cases hv4
      exact wt Q4 Q0 rfl
     cases hg3
     cases hv4
     exact wt Q4 Q0 rfl
    refine cn 54 (v4) rfl hB1 (fun hb hB1=>?_) fun hb hB1=>?_
    ·refine sg ?_
     refine wE [(2,vi (0)),(3,.v (.slice none 0 0)),(4,vi (11))] Q3 ?_
     refine rt ?_
     have hB1:=out_ret hB1 hy1
     cases hB1
     exact (Fz.t (.cons Fz.v (.cons Fz.nil (.cons Fz.v .nil))))
    refine sk ?_
    refine sq ?_
    refine Ok.draw (m:=9) (MD:=⟨[]⟩) (CH:=⟨[]⟩) Tryz.tok Tryz.mixed (by kernel_rfl) ?_
    obtain ⟨x5,hx5,hB1⟩:=bindS hB1
    obtain ⟨hc1,hB1⟩:=chk_some hB1
    obtain ⟨hc2,hB1⟩:=chk_some hB1
    refine ⟨_,rfl,_,⟨_,.of_pure (w_ref01_zag hx5) (LeL.refl _),rfl⟩,_,rfl,_,rfl,_,Or.inl ⟨hc1,rfl⟩,_,⟨_,sl_nat hc2.1,sl_len hc2,Nat.le_refl _,rowsK (f:=cU8) (K:=1) (fun _=>rfl) p_b,_,sl_drop _ _ _,rfl⟩,_,rfl,_,rfl,_,rfl,Q0,?_⟩
    refine wE [(2,vi x5),(3,.s (mU (p_b.drop (s1.2.2+1).toNat))),(4,vi (0))] Q3 ?_
    refine rt ?_
    have hB1:=out_ret hB1 hy1
    cases hB1
    exact (Fz.t (.cons Fz.v (.cons Fz.s (.cons Fz.v .nil))))
   refine sk ?_
   refine rg ?_
   obtain ⟨hc3,hB1⟩:=chk_some hB1
   refine (Or.inl ⟨hc3,?_⟩)
   exact ⟨_,sj hB1,wt Q4 Q0 rfl⟩
  refine xt ?_
  have hB1:=out_ret hB1 hy1
  exact ⟨_,hB1,wt Q0 Q0 rfl⟩
 intro v1 h
 unfold ref01N7 at h
 refine sg ?_
 refine wE [(2,vi (0)),(3,.v (.slice none 0 0)),(4,vi (10))] Q3 ?_
 refine rt ?_
 cases h
 exact (Fz.t (.cons Fz.v (.cons Fz.nil (.cons Fz.v .nil))))
theorem w_ref01N5 {p_b} {r} (h:ref01_count p_b=some r):Pure Tryz.prog 132 [(.s (mU p_b))] (.t [(vi r.1),(.s (mU r.2.1)),(vi r.2.2)]):=by
 refine po Tryz.tok 25 Tryz.func132 (by kernel_rfl) rfl rfl rfl ?_
 unfold ref01_count at h
 refine wE [(0,.s (mU p_b))] Q1 ?_
 refine sg ?_
 refine wE [(0,.s (mU p_b))] Q1 ?_
 refine sg ?_
 obtain ⟨x1,hx1,h⟩:=bindS h
 refine CallOk.call (w_ref01N2 hx1) (LeL.refl _) ?_
 refine wE [(5,vi x1.1),(6,.s (mU x1.2.1)),(7,vi x1.2.2)] Q3 ?_
 refine sq ?_
 refine sg ?_
 refine wE [(5,vi x1.1),(6,.s (mU x1.2.1)),(7,vi x1.2.2),(15,vb (x1.2.2 != 0))] Q4 ?_
 refine cn 15 (x1.2.2 != 0) rfl h (fun hb h=>?_) fun hb h=>?_
 ·refine sg ?_
  refine wE [(2,vi (0)),(3,.v (.slice none 0 0)),(4,vi x1.2.2)] Q3 ?_
  refine rt ?_
  cases h
  exact (Fz.t (.cons Fz.v (.cons Fz.nil (.cons Fz.v .nil))))
 refine sk ?_
 refine sq ?_
 refine sg ?_
 refine wE [(5,vi x1.1),(6,.s (mU x1.2.1)),(18,vb (decide (x1.1 < 0)))] Q3 ?_
 refine cn 18 (decide (x1.1 < 0)) rfl h (fun hb h=>?_) fun hb h=>?_
 ·refine sg ?_
  refine wE [(2,vi (0)),(3,.v (.slice none 0 0)),(4,vi (11))] Q3 ?_
  refine rt ?_
  cases h
  exact (Fz.t (.cons Fz.v (.cons Fz.nil (.cons Fz.v .nil))))
 refine sk ?_
 refine sq ?_
 refine sg ?_
 refine ⟨_,List.length_map _,fun _=>?_⟩
 refine wE [(5,vi x1.1),(6,.s (mU x1.2.1)),(22,vb (decide (x1.1 > (x1.2.1.length:Int))))] Q3 ?_
 refine cn 22 (decide (x1.1 > (x1.2.1.length:Int))) rfl h (fun hb h=>?_) fun hb h=>?_
 ·refine sg ?_
  refine wE [(2,vi (0)),(3,.v (.slice none 0 0)),(4,vi (10))] Q3 ?_
  refine rt ?_
  cases h
  exact (Fz.t (.cons Fz.v (.cons Fz.nil (.cons Fz.v .nil))))
 refine sk ?_
 refine sg ?_
 refine wE [(2,vi x1.1),(3,.s (mU x1.2.1)),(4,vi (0))] Q3 ?_
 refine rt ?_
 cases h
 exact (Fz.t (.cons Fz.v (.cons Fz.s (.cons Fz.v .nil))))
theorem w_ref01N4 {p_b} {r} (h:ref01N13 p_b=some r):Pure Tryz.prog 106 [(.s (mU p_b))] (.t [(vs r.1),(.s (mU r.2.1)),(vi r.2.2)]):=by
 refine po Tryz.tok 24 Tryz.func106 (by kernel_rfl) rfl rfl rfl ?_
 unfold ref01N13 at h
 refine wE [(0,.s (mU p_b))] Q1 ?_
 refine sg ?_
 refine wE [(0,.s (mU p_b))] Q1 ?_
 refine sg ?_
 obtain ⟨x1,hx1,h⟩:=bindS h
 refine CallOk.call (w_ref01N5 hx1) (LeL.refl _) ?_
 refine wE [(5,vi x1.1),(6,.s (mU x1.2.1)),(7,vi x1.2.2)] Q3 ?_
 refine sq ?_
 refine sg ?_
 refine wE [(5,vi x1.1),(6,.s (mU x1.2.1)),(7,vi x1.2.2),(15,vb (x1.2.2 != 0))] Q4 ?_
 refine cn 15 (x1.2.2 != 0) rfl h (fun hb h=>?_) fun hb h=>?_
 ·refine sg ?_
  refine wE [(2,vs ([])),(3,.v (.slice none 0 0)),(4,vi x1.2.2)] Q3 ?_
  refine rt ?_
  cases h
  exact (Fz.t (.cons Fz.v (.cons Fz.nil (.cons Fz.v .nil))))
 refine sk ?_
 refine sq ?_
 refine Ok.draw (m:=10) (MD:=⟨[]⟩) (CH:=⟨[]⟩) Tryz.tok Tryz.mixed (by kernel_rfl) ?_
 obtain ⟨hc1,h⟩:=chk_some h
 obtain ⟨hc2,h⟩:=chk_some h
 refine ⟨_,rfl,_,rfl,_,⟨_,sl_nat hc1.1,Nat.zero_le _,sl_len hc1,rowsK (f:=cU8) (K:=1) (fun _=>rfl) x1.2.1,_,sl_take _ _ _,rfl⟩,_,⟨_,rfl,rfl⟩,_,rfl,_,rfl,_,⟨_,sl_nat hc2.1,sl_len hc2,Nat.le_refl _,rowsK (f:=cU8) (K:=1) (fun _=>rfl) x1.2.1,_,sl_drop _ _ _,rfl⟩,_,rfl,_,rfl,_,rfl,Q0,?_⟩
 refine wE [(2,vs (x1.2.1.take x1.1.toNat)),(3,.s (mU (x1.2.1.drop x1.1.toNat))),(4,vi (0))] Q3 ?_
 refine rt ?_
 cases h
 exact (Fz.t (.cons Fz.v (.cons Fz.s (.cons Fz.v .nil))))
theorem w_ref01N3 {p_b} {r} (h:ref01N9 p_b=some r):Pure Tryz.prog 107 [(.s (mU p_b))] (.t [(.s (mI r.1)),(.s (mU r.2.1)),(vi r.2.2)]):=by
 refine po Tryz.tok 44 Tryz.func107 (by kernel_rfl) rfl rfl rfl ?_
 unfold ref01N9 at h
 refine wE [(0,.s (mU p_b))] Q1 ?_
 refine sg ?_
 refine wE [(0,.s (mU p_b))] Q1 ?_
 refine sg ?_
 refine Or.inr ?_
 refine wT [(0,.s (mU p_b)),(5,.o 13)] [(13,.own 3 1 (mI ([]:List Int)))] Q2 J1 rfl ?_
 refine sg ?_
 obtain ⟨x1,hx1,h⟩:=bindS h
 refine CallOk.call (w_ref01N5 hx1) (LeL.refl _) ?_
 refine wT [(5,.o 13),(6,vi x1.1),(7,.s (mU x1.2.1)),(8,vi x1.2.2)] [(13,.own 3 1 (mI ([]:List Int)))] Q4 J1 rfl ?_
 refine sq ?_
 refine sg ?_
 refine wT [(5,.o 13),(6,vi x1.1),(7,.s (mU x1.2.1)),(8,vi x1.2.2),(21,vb (x1.2.2 != 0))] [(13,.own 3 1 (mI ([]:List Int)))] Q5 J1 rfl ?_
 refine cn 21 (x1.2.2 != 0) rfl h (fun hb h=>?_) fun hb h=>?_
 ·refine sg ?_
  refine wE [(2,.v (.slice none 0 0)),(3,.v (.slice none 0 0)),(4,vi x1.2.2)] Q3 ?_
  refine rt ?_
  cases h
  exact (Fz.t (.cons Fz.nil (.cons Fz.nil (.cons Fz.v .nil))))
 refine sk ?_
 refine Ok.seqj (fun v1=>⟨Cat.tab [(5,.o 13),(7,.s (mU v1.1))],[(13,.own 3 1 (mI v1.2))]⟩) (fun v1=>ref01N11 v1=some r) ?_ ?_
 ·refine sg ?_
  refine wT [(5,.o 13),(6,vi x1.1),(7,.s (mU x1.2.1)),(9,vi (0))] [(13,.own 3 1 (mI ([]:List Int)))] Q4 J1 rfl ?_
  refine bl ?_
  refine Ok.loop (fun (s1:(List UInt8)×Int×(List Int))=>⟨Cat.tab [(5,.o 13),(6,vi x1.1),(7,.s (mU s1.1)),(9,vi s1.2.1)],[(13,.own 3 1 (mI s1.2.2))]⟩) (ref01N10 x1) (s0:=(x1.2.1,0,([]:List Int))) h (wt Q4 ⟨⟨_,rfl,.refl _⟩,Q0⟩ rfl) ?_
  intro s1 y1 hB1 hy1
  unfold ref01N10 at hB1
  refine sq ?_
  refine sg ?_
  refine wT [(5,.o 13),(6,vi x1.1),(7,.s (mU s1.1)),(9,vi s1.2.1),(25,vb (decide (s1.2.1 < x1.1)))] [(13,.own 3 1 (mI s1.2.2))] Q5 J1 rfl ?_
  refine cn 25 (decide (s1.2.1 < x1.1)) rfl hB1 (fun hb hB1=>?_) fun hb hB1=>?_
  ·refine sk ?_
   refine sq ?_
   refine bl ?_
   refine sg ?_
   obtain ⟨x2,hx2,hB1⟩:=bindS hB1
   refine CallOk.call (w_ref01N2 hx2) (LeL.refl _) ?_
   refine wT [(5,.o 13),(6,vi x1.1),(9,vi s1.2.1),(10,vi x2.1),(11,.s (mU x2.2.1)),(12,vi x2.2.2)] [(13,.own 3 1 (mI s1.2.2))] Q6 J1 rfl ?_
   refine sq ?_
   refine sg ?_
   refine wT [(5,.o 13),(6,vi x1.1),(9,vi s1.2.1),(10,vi x2.1),(11,.s (mU x2.2.1)),(12,vi x2.2.2),(35,vb (x2.2.2 != 0))] [(13,.own 3 1 (mI s1.2.2))] Q7 J1 rfl ?_
   refine cn 35 (x2.2.2 != 0) rfl hB1 (fun hb hB1=>?_) fun hb hB1=>?_
   ·refine sg ?_
    refine wE [(2,.v (.slice none 0 0)),(3,.v (.slice none 0 0)),(4,vi x2.2.2)] Q3 ?_
    refine rt ?_
    have hB1:=out_ret hB1 hy1
    cases hB1
    exact (Fz.t (.cons Fz.nil (.cons Fz.nil (.cons Fz.v .nil))))
   refine sk ?_
   refine sg ?_
   obtain ⟨hc1,hB1⟩:=chk_some hB1
   refine Or.inl ⟨rowsLen_map (f:=Go.Cat.encI) (n:=1) (fun _=>rfl) ([x2.1]),app_b2 (f:=Go.Cat.encI) (l:=s1.2.2) (l':=[x2.1]) hc1,_,(List.map_append (f:=Go.Cat.encI) (l₁:=s1.2.2) (l₂:=[x2.1])).symm,?_⟩
   refine wT [(5,.o 13),(6,vi x1.1),(9,vi s1.2.1),(11,.s (mU x2.2.1))] [(13,.own 3 1 (mI (s1.2.2++[x2.1])))] Q4 J1 rfl ?_
   refine rg ?_
   refine wT [(5,.o 13),(6,vi x1.1),(7,.s (mU x2.2.1)),(9,vi s1.2.1)] [(13,.own 3 1 (mI (s1.2.2++[x2.1])))] Q4 J1 rfl ?_
   refine rg ?_
   obtain ⟨hc2,hB1⟩:=chk_some hB1
   refine (Or.inl ⟨hc2,?_⟩)
   exact ⟨_,sj hB1,wt Q4 J1 rfl⟩
  refine xt ?_
  have hB1:=out_ret hB1 hy1
  exact ⟨_,hB1,wt Q2 ⟨⟨_,rfl,.refl _⟩,Q0⟩ rfl⟩
 intro v1 h
 unfold ref01N11 at h
 refine sg ?_
 refine wT [(2,.o 13),(3,.s (mU v1.1)),(4,vi (0))] [(13,.own 3 1 (mI v1.2))] Q3 J1 rfl ?_
 refine rt ?_
 cases h
 exact (Fz.t (.cons (Fz.o rfl) (.cons Fz.s (.cons Fz.v .nil))))
theorem w_ref25N2 {p_b} {r} (h:ref25N1 p_b=some r):Pure Tryz.prog 75 [(.s (mU p_b))] (.t [(.a [(vi r.1.Id),(vi r.1.Ver),(.s (mU r.1.Data)),(.s (mI r.1.Sums))]),(vb r.2)]):=by
 refine po Tryz.tok 63 Tryz.func75 (by kernel_rfl) rfl rfl rfl ?_
 unfold ref25N1 at h
 refine wE [(0,.s (mU p_b))] Q1 ?_
 refine sg ?_
 refine wT [(0,.s (mU p_b)),(2,.b 2 0)] [(2,.box [vi (0),vi (0),.v (.slice none 0 0),.v (.slice none 0 0)])] Q2 J1 rfl ?_
 refine sg ?_
 obtain ⟨x1,hx1,h⟩:=bindS h
 refine CallOk.call (w_ref01N2 hx1) (LeL.refl _) ?_
 refine wT [(2,.b 2 0),(4,vi x1.1),(5,.s (mU x1.2.1)),(6,vi x1.2.2)] [(2,.box [vi (0),vi (0),.v (.slice none 0 0),.v (.slice none 0 0)])] Q4 J1 rfl ?_
 refine sq ?_
 refine sg ?_
 refine wT [(2,.b 2 0),(4,vi x1.1),(5,.s (mU x1.2.1)),(23,vb (x1.2.2 != 0))] [(2,.box [vi (0),vi (0),.v (.slice none 0 0),.v (.slice none 0 0)])] Q4 J1 rfl ?_
 refine cn 23 (x1.2.2 != 0) rfl h (fun hb h=>?_) fun hb h=>?_
 ·refine sg ?_
  refine ⟨_,rfl,?_⟩
  refine wT [(2,.b 2 0),(3,vb false)] [(2,.box [vi (0),vi (0),.v (.slice none 0 0),.v (.slice none 0 0)])] Q2 J1 rfl ?_
  refine rt ?_
  cases h
  exact ⟨_,rfl,(Fz.t (.cons (Fz.a (.cons Fz.v (.cons Fz.v (.cons Fz.nil (.cons Fz.nil .nil))))) (.cons Fz.v .nil)))⟩
 refine sk ?_
 refine sg ?_
 obtain ⟨x2,hx2,h⟩:=bindS h
 refine CallOk.call (w_ref01N2 hx2) (LeL.refl _) ?_
 refine wT [(2,.b 2 0),(4,vi x1.1),(7,vi x2.1),(8,.s (mU x2.2.1)),(9,vi x2.2.2)] [(2,.box [vi (0),vi (0),.v (.slice none 0 0),.v (.slice none 0 0)])] Q5 J1 rfl ?_
 refine sq ?_
 refine sg ?_
 refine wT [(2,.b 2 0),(4,vi x1.1),(7,vi x2.1),(8,.s (mU x2.2.1)),(32,vb (x2.2.2 != 0))] [(2,.box [vi (0),vi (0),.v (.slice none 0 0),.v (.slice none 0 0)])] Q5 J1 rfl ?_
 refine cn 32 (x2.2.2 != 0) rfl h (fun hb h=>?_) fun hb h=>?_
 ·refine sg ?_
  refine ⟨_,rfl,?_⟩
  refine wT [(2,.b 2 0),(3,vb false)] [(2,.box [vi (0),vi (0),.v (.slice none 0 0),.v (.slice none 0 0)])] Q2 J1 rfl ?_
  refine rt ?_
  cases h
  exact ⟨_,rfl,(Fz.t (.cons (Fz.a (.cons Fz.v (.cons Fz.v (.cons Fz.nil (.cons Fz.nil .nil))))) (.cons Fz.v .nil)))⟩
 refine sk ?_
 refine sg ?_
 obtain ⟨x3,hx3,h⟩:=bindS h
 refine CallOk.call (w_ref01N4 hx3) (LeL.refl _) ?_
 refine wT [(2,.b 2 0),(4,vi x1.1),(7,vi x2.1),(10,vs x3.1),(11,.s (mU x3.2.1)),(12,vi x3.2.2)] [(2,.box [vi (0),vi (0),.v (.slice none 0 0),.v (.slice none 0 0)])] Q6 J1 rfl ?_
 refine sq ?_
 refine sg ?_
 refine wT [(2,.b 2 0),(4,vi x1.1),(7,vi x2.1),(10,vs x3.1),(11,.s (mU x3.2.1)),(41,vb (x3.2.2 != 0))] [(2,.box [vi (0),vi (0),.v (.slice none 0 0),.v (.slice none 0 0)])] Q6 J1 rfl ?_
 refine cn 41 (x3.2.2 != 0) rfl h (fun hb h=>?_) fun hb h=>?_
 ·refine sg ?_
  refine ⟨_,rfl,?_⟩
  refine wT [(2,.b 2 0),(3,vb false)] [(2,.box [vi (0),vi (0),.v (.slice none 0 0),.v (.slice none 0 0)])] Q2 J1 rfl ?_
  refine rt ?_
  cases h
  exact ⟨_,rfl,(Fz.t (.cons (Fz.a (.cons Fz.v (.cons Fz.v (.cons Fz.nil (.cons Fz.nil .nil))))) (.cons Fz.v .nil)))⟩
 refine sk ?_
 refine sg ?_
 obtain ⟨x4,hx4,h⟩:=bindS h
 refine CallOk.call (w_ref01N3 hx4) (LeL.refl _) ?_
 refine wT [(2,.b 2 0),(4,vi x1.1),(7,vi x2.1),(10,vs x3.1),(13,.s (mI x4.1)),(14,.s (mU x4.2.1)),(15,vi x4.2.2)] [(2,.box [vi (0),vi (0),.v (.slice none 0 0),.v (.slice none 0 0)])] Q7 J1 rfl ?_
 refine sq ?_
 obtain ⟨v1,hv1,h⟩:=bindS h
 refine Ok.seqw ⟨Cat.tab [(2,.b 2 0),(4,vi x1.1),(7,vi x2.1),(10,vs x3.1),(13,.s (mI x4.1)),(55,vb v1)],[(2,.box [vi (0),vi (0),.v (.slice none 0 0),.v (.slice none 0 0)])]⟩ ?_ ?_
 ·refine rg ?_
  obtain ⟨c1,hg1,hv1⟩:=bindS hv1
  refine Br.itf hg1 (fun hb hg1=>?_) fun hb hg1=>?_
  ·cases hg1
   cases hv1
   exact wt Q6 J1 rfl
  refine ⟨_,List.length_map _,fun _=>?_⟩
  cases hg1
  cases hv1
  exact wt Q6 J1 rfl
 refine cn 55 (v1) rfl h (fun hb h=>?_) fun hb h=>?_
 ·refine sg ?_
  refine ⟨_,rfl,?_⟩
  refine wT [(2,.b 2 0),(3,vb false)] [(2,.box [vi (0),vi (0),.v (.slice none 0 0),.v (.slice none 0 0)])] Q2 J1 rfl ?_
  refine rt ?_
  cases h
  exact ⟨_,rfl,(Fz.t (.cons (Fz.a (.cons Fz.v (.cons Fz.v (.cons Fz.nil (.cons Fz.nil .nil))))) (.cons Fz.v .nil)))⟩
 refine sk ?_
 refine sg ?_
 obtain ⟨hc1,h⟩:=chk_some h
 refine ⟨str_max hc1,_,rfl,?_⟩
 refine wT [(2,.b 2 0),(3,vb true)] [(2,.box [vi x1.1,vi x2.1,.s (mU x3.1),.s (mI x4.1)])] Q2 J1 rfl ?_
 refine rt ?_
 cases h
 exact ⟨_,rfl,(Fz.t (.cons (Fz.imm rfl) (.cons Fz.v .nil)))⟩
theorem w_ref02N4 {p_a} {p_b} {r} (h:ref02N10 p_a p_b=some r):Pure Tryz.prog 134 [(vi p_a),(vi p_b)] (vi r):=by
 refine po Tryz.tok 8 Tryz.func134 (by kernel_rfl) rfl rfl rfl ?_
 unfold ref02N10 at h
 refine wE [(0,vi p_a),(1,vi p_b)] Q2 ?_
 refine sg ?_
 refine wE [(0,vi p_a),(1,vi p_b)] Q2 ?_
 refine sg ?_
 refine ⟨_,rfl,?_⟩
 refine wE [(4,vi (xorK .i64 p_a p_b))] Q1 ?_
 refine rt ?_
 cases h
 exact Fz.v
theorem w_ref02_Of {p_b} {r} (h:ref02_Of p_b=some r):Pure Tryz.prog 112 [(.s (mU p_b))] (vi r):=by
 refine po Tryz.tok 34 Tryz.func112 (by kernel_rfl) rfl rfl rfl ?_
 unfold ref02_Of at h
 refine wE [(0,.s (mU p_b))] Q1 ?_
 refine sg ?_
 refine wE [(0,.s (mU p_b))] Q1 ?_
 refine sg ?_
 refine wE [(0,.s (mU p_b)),(3,vi (4294967295))] Q2 ?_
 obtain ⟨v1,hv1,h⟩:=bindS h
 refine Ok.seqw ⟨Cat.tab [(3,vi v1)],[]⟩ ?_ ?_
 ·refine sg ?_
  refine wE [(0,.s (mU p_b)),(3,vi (4294967295)),(4,vi (0))] Q3 ?_
  refine bl ?_
  refine Ok.loop (fun (s1:Int×Int)=>⟨Cat.tab [(0,.s (mU p_b)),(3,vi s1.1),(4,vi s1.2)],[]⟩) (ref02_Of_B1 p_b) (s0:=(4294967295,0)) hv1 (wt Q3 Q0 rfl) ?_
  intro s1 y1 hB1 hy1
  unfold ref02_Of_B1 at hB1
  refine sq ?_
  refine sg ?_
  refine ⟨_,List.length_map _,fun _=>?_⟩
  refine wE [(0,.s (mU p_b)),(3,vi s1.1),(4,vi s1.2),(10,vb (decide (s1.2 < (p_b.length:Int))))] Q4 ?_
  refine cn 10 (decide (s1.2 < (p_b.length:Int))) rfl hB1 (fun hb hB1=>?_) fun hb hB1=>?_
  ·refine sk ?_
   obtain ⟨v2,hv2,hB1⟩:=bindS hB1
   refine Ok.seqw ⟨Cat.tab [(0,.s (mU p_b)),(3,vi v2),(4,vi s1.2)],[]⟩ ?_ ?_
   ·refine bl ?_
    refine sg ?_
    obtain ⟨x1,hx1,hv2⟩:=bindS hv2
    obtain ⟨x2,hx2,hv2⟩:=bindS hv2
    refine ⟨_,idx_nat hx1,_,idx_row hx1,_,rfl,_,wrap_of_u8 (k:=.i64) (by decide) _,?_⟩
    refine CallOk.call (w_ref02N4 hx2) (LeL.refl _) ?_
    refine wE [(0,.s (mU p_b)),(3,vi x2),(4,vi s1.2)] Q3 ?_
    refine sg ?_
    refine wE [(0,.s (mU p_b)),(3,vi x2),(4,vi s1.2),(5,vi (0))] Q4 ?_
    refine bl ?_
    refine Ok.loop (fun (s2:Int×Int)=>⟨Cat.tab [(0,.s (mU p_b)),(3,vi s2.1),(4,vi s1.2),(5,vi s2.2)],[]⟩) (ref02_Of_B2) (s0:=(x2,0)) hv2 (wt Q4 Q0 rfl) ?_
    intro s2 y2 hB2 hy2
    unfold ref02_Of_B2 at hB2
    refine sq ?_
    refine sg ?_
    refine wE [(0,.s (mU p_b)),(3,vi s2.1),(4,vi s1.2),(5,vi s2.2),(21,vb (decide (s2.2 < 8)))] Q5 ?_
    refine cn 21 (decide (s2.2 < 8)) rfl hB2 (fun hb hB2=>?_) fun hb hB2=>?_
    ·refine sk ?_
     obtain ⟨v3,hv3,hB2⟩:=bindS hB2
     refine Ok.seqw ⟨Cat.tab [(0,.s (mU p_b)),(3,vi v3),(4,vi s1.2),(5,vi s2.2)],[]⟩ ?_ ?_
     ·refine bl ?_
      refine sg ?_
      refine ⟨(by decide),_,rfl,?_⟩
      refine wE [(0,.s (mU p_b)),(3,vi s2.1),(4,vi s1.2),(5,vi s2.2),(6,vb ((Int.tmod s2.1 (2)) == 1))] Q5 ?_
      refine sg ?_
      refine ⟨(by decide),_,rfl,?_⟩
      refine wE [(0,.s (mU p_b)),(3,vi (quoK .i64 s2.1 (2))),(4,vi s1.2),(5,vi s2.2),(6,vb ((Int.tmod s2.1 (2)) == 1))] Q5 ?_
      refine sg ?_
      refine wE [(0,.s (mU p_b)),(3,vi (quoK .i64 s2.1 (2))),(4,vi s1.2),(5,vi s2.2),(29,vb ((Int.tmod s2.1 (2)) == 1))] Q5 ?_
      refine cn 29 ((Int.tmod s2.1 (2)) == 1) rfl hv3 (fun hb hv3=>?_) fun hb hv3=>?_
      ·refine rg ?_
       obtain ⟨x3,hx3,hv3⟩:=bindS hv3
       refine CallOk.call (w_ref02N4 hx3) (LeL.refl _) ?_
       cases hv3
       exact wt Q4 Q0 rfl
      refine sk ?_
      cases hv3
      exact wt Q4 Q0 rfl
     refine rg ?_
     obtain ⟨hc1,hB2⟩:=chk_some hB2
     refine (Or.inl ⟨hc1,?_⟩)
     exact ⟨_,sj hB2,wt Q4 Q0 rfl⟩
    refine xt ?_
    have hB2:=out_ret hB2 hy2
    cases hB2
    exact wt Q3 Q0 rfl
   refine rg ?_
   obtain ⟨hc2,hB1⟩:=chk_some hB1
   refine (Or.inl ⟨hc2,?_⟩)
   exact ⟨_,sj hB1,wt Q3 Q0 rfl⟩
  refine xt ?_
  have hB1:=out_ret hB1 hy1
  cases hB1
  exact wt Q1 Q0 rfl
 refine sg ?_
 obtain ⟨x4,hx4,h⟩:=bindS h
 refine CallOk.call (w_ref02N4 hx4) (LeL.refl _) ?_
 refine wE [(2,vi x4)] Q1 ?_
 refine rt ?_
 cases h
 exact Fz.v
theorem wo_ref02N1 {p_data} {r} (h:ref02N1 p_data=some r):POwn Tryz.prog 87 [(.s (mU p_data))] 3 1 (mI r):=by
 refine pw Tryz.tok 24 Tryz.func87 (by kernel_rfl) rfl rfl rfl ?_
 unfold ref02N1 at h
 refine wE [(0,.s (mU p_data))] Q1 ?_
 refine sg ?_
 refine wE [(0,.s (mU p_data))] Q1 ?_
 refine sg ?_
 refine wE [(0,.s (mU p_data)),(3,.v (.slice none 0 0))] Q2 ?_
 obtain ⟨v1,hv1,h⟩:=bindS h
 refine Ok.seqw ⟨Cat.tab [(3,.o 22)],[(22,.own 3 1 (mI v1))]⟩ ?_ ?_
 ·refine sg ?_
  refine wE [(0,.s (mU p_data)),(3,.v (.slice none 0 0)),(4,vi (0))] Q3 ?_
  refine bl ?_
  refine Ok.loop (fun (s1:Int×(List Int))=>⟨Cat.tab [(0,.s (mU p_data)),(3,.o 22),(4,vi s1.1)],[(22,.own 3 1 (mI s1.2))]⟩) (ref02N2 p_data) (s0:=(0,[])) hv1 ((Wk.own0 (t:=3) (id:=22) (E:=3) (K:=1) rfl rfl).trans (wt Q3 ⟨⟨_,rfl,.refl _⟩,Q0⟩ rfl)) ?_
  intro s1 y1 hB1 hy1
  unfold ref02N2 at hB1
  refine sq ?_
  refine sg ?_
  refine ⟨_,List.length_map _,fun _=>?_⟩
  refine wT [(0,.s (mU p_data)),(3,.o 22),(4,vi s1.1),(8,vb (decide (s1.1 < (p_data.length:Int))))] [(22,.own 3 1 (mI s1.2))] Q4 J1 rfl ?_
  refine cn 8 (decide (s1.1 < (p_data.length:Int))) rfl hB1 (fun hb hB1=>?_) fun hb hB1=>?_
  ·refine sk ?_
   refine sq ?_
   refine bl ?_
   refine rg ?_
   obtain ⟨hc1,hB1⟩:=chk_some hB1
   obtain ⟨hc2,hB1⟩:=chk_some hB1
   obtain ⟨x1,hx1,hB1⟩:=bindS hB1
   refine (Or.inl ⟨hc1,_,List.length_map _,fun _=>⟨_,rfl,_,sl_nat hc2.1,_,sl_nat (sl_lh hc2),sl_le hc2,sl_len3 hc2,rowsK (f:=cU8) (K:=1) (fun _=>rfl) p_data,_,sl_sub _ _ _ _,?_⟩⟩)
   refine CallOk.call (w_ref02_Of hx1) (LeL.refl _) ?_
   obtain ⟨hc3,hB1⟩:=chk_some hB1
   refine Or.inl ⟨rowsLen_map (f:=Go.Cat.encI) (n:=1) (fun _=>rfl) ([x1]),app_b2 (f:=Go.Cat.encI) (l:=s1.2) (l':=[x1]) hc3,_,(List.map_append (f:=Go.Cat.encI) (l₁:=s1.2) (l₂:=[x1])).symm,?_⟩
   refine wT [(0,.s (mU p_data)),(3,.o 22),(4,vi s1.1)] [(22,.own 3 1 (mI (s1.2++[x1])))] Q3 J1 rfl ?_
   refine rg ?_
   obtain ⟨hc4,hB1⟩:=chk_some hB1
   refine (Or.inl ⟨hc4,?_⟩)
   exact ⟨_,sj hB1,wt Q3 J1 rfl⟩
  refine xt ?_
  have hB1:=out_ret hB1 hy1
  cases hB1
  exact wt Q1 J1 rfl
 refine sg ?_
 refine wT [(2,.o 22)] [(22,.own 3 1 (mI v1))] Q1 J1 rfl ?_
 refine rt ?_
 cases h
 exact (.inr ⟨_,rfl,rfl⟩)
theorem w_ref02N1 {p_data} {r} (h:ref02N1 p_data=some r):Pure Tryz.prog 87 [(.s (mU p_data))] (.s (mI r)):=(wo_ref02N1 h).pure
theorem w_ref02N3 {p_data} {p_sums} {r} (h:ref02_Check p_data p_sums=some r):Pure Tryz.prog 108 [(.s (mU p_data)),(.s (mI p_sums))] (vi r):=by
 refine po Tryz.tok 43 Tryz.func108 (by kernel_rfl) rfl rfl rfl ?_
 unfold ref02_Check at h
 refine wE [(0,.s (mU p_data)),(1,.s (mI p_sums))] Q2 ?_
 refine sg ?_
 refine wE [(0,.s (mU p_data)),(1,.s (mI p_sums))] Q2 ?_
 refine sg ?_
 obtain ⟨x1,hx1,h⟩:=bindS h
 refine CallOk.call (w_ref02N1 hx1) (LeL.refl _) ?_
 refine wE [(1,.s (mI p_sums)),(5,.s (mI x1))] Q2 ?_
 refine Ok.seqj (fun v1=>⟨Cat.tab [],[]⟩) (fun v1=>ref02N8 v1=some r) ?_ ?_
 ·refine sg ?_
  refine wE [(1,.s (mI p_sums)),(5,.s (mI x1)),(6,vi (0))] Q3 ?_
  refine bl ?_
  refine Ok.loop (fun (s1:Int)=>⟨Cat.tab [(1,.s (mI p_sums)),(5,.s (mI x1)),(6,vi s1)],[]⟩) (ref02N7 x1 p_sums) (s0:=0) h (wt Q3 Q0 rfl) ?_
  intro s1 y1 hB1 hy1
  unfold ref02N7 at hB1
  refine sq ?_
  obtain ⟨v2,hv2,hB1⟩:=bindS hB1
  refine Ok.seqw ⟨Cat.tab [(1,.s (mI p_sums)),(5,.s (mI x1)),(6,vi s1),(18,vb v2)],[]⟩ ?_ ?_
  ·refine rg ?_
   refine ⟨_,List.length_map _,fun _=>?_⟩
   obtain ⟨c1,hg1,hv2⟩:=bindS hv2
   refine Br.itf hg1 (fun hb hg1=>?_) fun hb hg1=>?_
   ·cases hg1
    cases hv2
    exact wt Q4 Q0 rfl
   refine ⟨_,List.length_map _,fun _=>?_⟩
   cases hg1
   cases hv2
   exact wt Q4 Q0 rfl
  refine cn 18 (v2) rfl hB1 (fun hb hB1=>?_) fun hb hB1=>?_
  ·refine sk ?_
   refine sq ?_
   refine bl ?_
   obtain ⟨v3,hv3,hB1⟩:=bindS hB1
   refine Ok.seqw ⟨Cat.tab [(1,.s (mI p_sums)),(5,.s (mI x1)),(6,vi s1),(41,vb v3)],[]⟩ ?_ ?_
   ·refine Ok.draw (m:=21) (MD:=⟨[]⟩) (CH:=⟨[]⟩) Tryz.tok Tryz.mixed (by kernel_rfl) ?_
    refine ⟨_,rfl,_,rfl,_,⟨_,List.length_map _,fun _=>rfl⟩,_,rfl,_,rfl,?_⟩
    obtain ⟨c2,hg2,hv3⟩:=bindS hv3
    refine Br.itf hg2 (fun hb hg2=>?_) fun hb hg2=>?_
    ·cases hg2
     refine ⟨_,rfl,?_⟩
     refine ⟨_,rfl,?_⟩
     obtain ⟨c3,hg3,hv3⟩:=bindS hv3
     replace hg3:=iteT hg3
     cases hg3
     refine ⟨_,rfl,?_⟩
     refine ⟨Q0,?_⟩
     cases hv3
     exact wt Q4 Q0 rfl
    refine ⟨_,rfl,_,rfl,_,⟨_,List.length_map _,fun _=>rfl⟩,_,rfl,?_⟩
    cases hg2
    refine ⟨_,rfl,?_⟩
    refine ⟨_,rfl,?_⟩
    obtain ⟨c3,hg4,hv3⟩:=bindS hv3
    refine Br.itf hg4 (fun hb hg4=>?_) fun hb hg4=>?_
    ·cases hg4
     refine ⟨_,rfl,?_⟩
     refine ⟨Q0,?_⟩
     cases hv3
     exact wt Q4 Q0 rfl
    obtain ⟨x2,hx2,hg4⟩:=bindS hg4
    obtain ⟨x3,hx3,hg4⟩:=bindS hg4
    refine ⟨_,rfl,_,rfl,_,⟨_,idx_nat hx2,_,idx_row hx2,rfl⟩,_,⟨_,rfl,rfl⟩,_,rfl,_,rfl,_,⟨_,idx_nat hx3,_,idx_row hx3,rfl⟩,_,⟨_,rfl,rfl⟩,_,rfl,?_⟩
    cases hg4
    refine ⟨_,rfl,?_⟩
    refine ⟨Q0,?_⟩
    cases hv3
    exact wt Q4 Q0 rfl
   refine cn 41 (v3) rfl hB1 (fun hb hB1=>?_) fun hb hB1=>?_
   ·refine sg ?_
    refine wE [(4,vi s1)] Q1 ?_
    refine rt ?_
    have hB1:=out_ret hB1 hy1
    cases hB1
    exact Fz.v
   refine sk ?_
   refine rg ?_
   obtain ⟨hc1,hB1⟩:=chk_some hB1
   refine (Or.inl ⟨hc1,?_⟩)
   exact ⟨_,sj hB1,wt Q3 Q0 rfl⟩
  refine xt ?_
  have hB1:=out_ret hB1 hy1
  exact ⟨_,hB1,wt Q0 Q0 rfl⟩
 intro v1 h
 unfold ref02N8 at h
 refine sg ?_
 refine wE [(4,vi (-1))] Q1 ?_
 refine rt ?_
 cases h
 exact Fz.v
theorem w_ref25_May {p_c} {r} (h:ref25_May p_c=some r):Pure Tryz.prog 76 [(.a [(vi p_c.Id),(vi p_c.Ver),(.s (mU p_c.Data)),(.s (mI p_c.Sums))])] (vb r):=by
 refine po Tryz.tok 35 Tryz.func76 (by kernel_rfl) rfl rfl rfl ?_
 unfold ref25_May at h
 refine wE [(0,.a [vi p_c.Id,vi p_c.Ver,.s (mU p_c.Data),.s (mI p_c.Sums)])] Q1 ?_
 refine sg ?_
 refine wT [(1,.b 1 0)] [(1,.box [vi p_c.Id,vi p_c.Ver,.s (mU p_c.Data),.s (mI p_c.Sums)])] Q1 J1 rfl ?_
 obtain ⟨v1,hv1,h⟩:=bindS h
 refine Ok.seqw ⟨Cat.tab [(2,vb v1)],[]⟩ ?_ ?_
 ·refine rg ?_
  refine ⟨_,rfl,?_⟩
  obtain ⟨c1,hg1,hv1⟩:=bindS hv1
  refine Br.ite hg1 (fun hb hg1=>?_) fun hb hg1=>?_
  ·refine ⟨_,rfl,?_⟩
   cases hg1
   obtain ⟨c2,hg2,hv1⟩:=bindS hv1
   refine Br.ite hg2 (fun hb hg2=>?_) fun hb hg2=>?_
   ·refine ⟨_,rfl,?_⟩
    cases hg2
    obtain ⟨c3,hg3,hv1⟩:=bindS hv1
    refine Br.ite hg3 (fun hb hg3=>?_) fun hb hg3=>?_
    ·refine ⟨_,rfl,?_⟩
     cases hg3
     obtain ⟨c4,hg4,hv1⟩:=bindS hv1
     refine Br.ite hg4 (fun hb hg4=>?_) fun hb hg4=>?_
     ·refine ⟨_,rfl,_,List.length_map _,fun _=>?_⟩
      cases hg4
      obtain ⟨c5,hg5,hv1⟩:=bindS hv1
      refine Br.ite hg5 (fun hb hg5=>?_) fun hb hg5=>?_
      ·obtain ⟨x1,hx1,hg5⟩:=bindS hg5
       refine ⟨_,rfl,_,rfl,?_⟩
       refine CallOk.call (w_ref02N3 hx1) (LeL.refl _) ?_
       cases hg5
       cases hv1
       exact wt Q1 Q0 rfl
      cases hg5
      cases hv1
      exact wt Q1 Q0 rfl
     cases hg4
     obtain ⟨c5,hg6,hv1⟩:=bindS hv1
     replace hg6:=iteF hg6
     cases hg6
     cases hv1
     exact wt Q1 Q0 rfl
    cases hg3
    obtain ⟨c4,hg7,hv1⟩:=bindS hv1
    replace hg7:=iteF hg7
    cases hg7
    obtain ⟨c5,hg8,hv1⟩:=bindS hv1
    replace hg8:=iteF hg8
    cases hg8
    cases hv1
    exact wt Q1 Q0 rfl
   cases hg2
   obtain ⟨c3,hg9,hv1⟩:=bindS hv1
   replace hg9:=iteF hg9
   cases hg9
   obtain ⟨c4,hg10,hv1⟩:=bindS hv1
   replace hg10:=iteF hg10
   cases hg10
   obtain ⟨c5,hg11,hv1⟩:=bindS hv1
   replace hg11:=iteF hg11
   cases hg11
   cases hv1
   exact wt Q1 Q0 rfl
  cases hg1
  obtain ⟨c2,hg12,hv1⟩:=bindS hv1
  replace hg12:=iteF hg12
  cases hg12
  obtain ⟨c3,hg13,hv1⟩:=bindS hv1
  replace hg13:=iteF hg13
  cases hg13
  obtain ⟨c4,hg14,hv1⟩:=bindS hv1
  replace hg14:=iteF hg14
  cases hg14
  obtain ⟨c5,hg15,hv1⟩:=bindS hv1
  replace hg15:=iteF hg15
  cases hg15
  cases hv1
  exact wt Q1 Q0 rfl
 refine rt ?_
 cases h
 exact Fz.v
theorem w_ref01_zig {p_n} {r} (h:ref01_zig p_n=some r):Pure Tryz.prog 133 [(vi p_n)] (.v (.int .u64 r)):=by
 refine po Tryz.tok 14 Tryz.func133 (by kernel_rfl) rfl rfl rfl ?_
 unfold ref01_zig at h
 refine wE [(0,vi p_n)] Q1 ?_
 refine sg ?_
 refine wE [(0,vi p_n)] Q1 ?_
 refine sq ?_
 refine sg ?_
 refine wE [(0,vi p_n),(4,vb (decide (p_n < 0)))] Q2 ?_
 refine cn 4 (decide (p_n < 0)) rfl h (fun hb h=>?_) fun hb h=>?_
 ·refine sg ?_
  obtain ⟨hc1,h⟩:=chk_some h
  obtain ⟨hc2,h⟩:=chk_some h
  refine (Or.inl ⟨hc1,_,InI64.wrap hc2,_,rfl,_,rfl,_,rfl,?_⟩)
  refine wE [(2,.v (.int .u64 (IntKind.u64.wrap ((IntKind.u64.wrap (2 * (IntKind.u64.wrap (0 - (p_n+1)))))+1))))] Q1 ?_
  refine rt ?_
  cases h
  exact Fz.v
 refine sk ?_
 refine sg ?_
 refine ⟨_,rfl,_,rfl,?_⟩
 refine wE [(2,.v (.int .u64 (IntKind.u64.wrap (2 * (IntKind.u64.wrap p_n)))))] Q1 ?_
 refine rt ?_
 cases h
 exact Fz.v
theorem wo_ref01N1 {p_n} {r} (h:ref01_Int p_n=some r):POwn Tryz.prog 109 [(vi p_n)] 5 1 (mU r):=by
 refine pw Tryz.tok 25 Tryz.func109 (by kernel_rfl) rfl rfl rfl ?_
 unfold ref01_Int at h
 refine wE [(0,vi p_n)] Q1 ?_
 refine sg ?_
 refine wE [(0,vi p_n)] Q1 ?_
 refine sg ?_
 refine Or.inr ?_
 refine wT [(0,vi p_n),(3,.o 5)] [(5,.own 5 1 (mU ([]:List UInt8)))] Q2 J1 rfl ?_
 refine sg ?_
 obtain ⟨x1,hx1,h⟩:=bindS h
 refine CallOk.call (w_ref01_zig hx1) (LeL.refl _) ?_
 refine wT [(3,.o 5),(4,.v (.int .u64 x1))] [(5,.own 5 1 (mU ([]:List UInt8)))] Q2 J1 rfl ?_
 obtain ⟨v1,hv1,h⟩:=bindS h
 refine Ok.seqw ⟨Cat.tab [(3,.o 5),(4,.v (.int .u64 v1.1))],[(5,.own 5 1 (mU v1.2))]⟩ ?_ ?_
 ·refine bl ?_
  refine Ok.loop (fun (s1:Int×(List UInt8))=>⟨Cat.tab [(3,.o 5),(4,.v (.int .u64 s1.1))],[(5,.own 5 1 (mU s1.2))]⟩) (ref01N1) (s0:=(x1,([]:List UInt8))) hv1 (wt Q2 ⟨⟨_,rfl,.refl _⟩,Q0⟩ rfl) ?_
  intro s1 y1 hB1 hy1
  unfold ref01N1 at hB1
  refine sq ?_
  refine sg ?_
  refine wT [(3,.o 5),(4,.v (.int .u64 s1.1)),(9,vb (decide (s1.1≥128)))] [(5,.own 5 1 (mU s1.2))] Q3 J1 rfl ?_
  refine cn 9 (decide (s1.1≥128)) rfl hB1 (fun hb hB1=>?_) fun hb hB1=>?_
  ·refine sk ?_
   refine bl ?_
   refine sg ?_
   obtain ⟨hc1,hB1⟩:=chk_some hB1
   refine ⟨(by decide),_,rfl,_,rfl,_,toU8_wrap _,Or.inl ⟨rowsLen_map (f:=cU8) (n:=1) (fun _=>rfl) ([toU8 (IntKind.u64.wrap (128+(Int.tmod s1.1 (128))))]),app_b2 (f:=cU8) (l:=s1.2) (l':=[toU8 (IntKind.u64.wrap (128+(Int.tmod s1.1 (128))))]) hc1,_,(List.map_append (f:=cU8) (l₁:=s1.2) (l₂:=[toU8 (IntKind.u64.wrap (128+(Int.tmod s1.1 (128))))])).symm,?_⟩⟩
   refine wT [(3,.o 5),(4,.v (.int .u64 s1.1))] [(5,.own 5 1 (mU (s1.2++[toU8 (IntKind.u64.wrap (128+(Int.tmod s1.1 (128))))])))] Q2 J1 rfl ?_
   refine rg ?_
   refine ⟨(by decide),_,rfl,?_⟩
   exact ⟨_,sj hB1,wt Q2 J1 rfl⟩
  refine xt ?_
  have hB1:=out_ret hB1 hy1
  cases hB1
  exact wt Q2 J1 rfl
 refine sg ?_
 obtain ⟨hc2,h⟩:=chk_some h
 refine ⟨_,toU8_wrap _,Or.inl ⟨rowsLen_map (f:=cU8) (n:=1) (fun _=>rfl) ([toU8 v1.1]),app_b2 (f:=cU8) (l:=v1.2) (l':=[toU8 v1.1]) hc2,_,(List.map_append (f:=cU8) (l₁:=v1.2) (l₂:=[toU8 v1.1])).symm,?_⟩⟩
 refine wT [(3,.o 5)] [(5,.own 5 1 (mU (v1.2++[toU8 v1.1])))] Q1 J1 rfl ?_
 refine sg ?_
 refine wT [(2,.o 5)] [(5,.own 5 1 (mU (v1.2++[toU8 v1.1])))] Q1 J1 rfl ?_
 refine rt ?_
 cases h
 exact (.inr ⟨_,rfl,rfl⟩)
theorem w_ref01_Int {p_n} {r} (h:ref01_Int p_n=some r):Pure Tryz.prog 109 [(vi p_n)] (.s (mU r)):=(wo_ref01N1 h).pure
end Go.Proofs
