/- The walk of the law TransducerDomain: the call returns true, whatever its arguments read, and changes nothing. -/
import Derived.Test.YtmohebpaonkaeaaGreatDoorMF
set_option maxHeartbeats 4000000
set_option maxRecDepth 10000
set_option linter.unusedVariables false
set_option linter.unusedSimpArgs false
set_option linter.unusedSectionVars false
namespace Go.Proofs.YtmohebpaonkaeaaGreatDoor
open Go Go.Ex Go.RowKit Go.Proofs.Tryz
theorem ldom_ok {G:Ah} {zt ft:UInt8} {tot out ent:List UInt8} {vat vbt vct:Value} (htot:Bd G vat tot) (hout:Bd G vbt out) (hent:Bd G vct ent) (hlat:tot.length≤1000000000) (hlbt:out.length≤1000000000) (hlct:ent.length≤1000000000) {wd:List UInt8} {vw:Value} (hw:Bd G vw wd) (hwl:wd.length≤1000000000) (hT:Tab G) :
  Ba prog 6 [.agg #[.int .u8 (zt.toNat:Int),vat,vbt,.int .u8 (ft.toNat:Int),vct],vw] G [] fun r _ H'=>H'=[]∧r=Vt:=by
 obtain ⟨Aat,cat,rfl,_⟩:=id htot
 obtain ⟨Abt,cbt,rfl,_⟩:=id hout
 obtain ⟨Act,cct,rfl,_⟩:=id hent
 obtain ⟨t,hqt⟩:∃ q,q=Mn ⟨zt.toNat,tot,out,ft.toNat,ent⟩:=⟨_,rfl⟩
 obtain ⟨htokt,htmt⟩:Cn7.TrOk t∧t.moves.length≤3:=by rw [hqt];exact Cn7.madeT_ok _
 obtain ⟨Aw,cw,rfl,_⟩:=id hw
 refine Ba.of_T [(0,_),(1,_)] func6 rfl ntmps6 sM rfl fun w0 hs=>?_
 have htot0:=htot
 have hout0:=hout
 have hent0:=hent
 have hw0:=hw
 have hT0:=hT
 refine Wt 2 [] hs rfl<|O_s (Sb hs rfl fun b2 _ hs=>Wp 4 [0] hs rfl<|O_s (Sp (Qc hT) hs rfl fun v1 G' _ hR hG20 hs=>?_))
 obtain rfl:=hR
 refine Wp 5 [0,0] hs rfl ?_
 replace htot:=htot.mono hG20
 replace hout:=hout.mono hG20
 replace hent:=hent.mono hG20
 refine O_s (Sp (Ie htot hout hent hlat hlbt hlct) hs rfl fun v2 G' _ hv6 hG22 hs=>?_)
 rw [← hqt] at hv6
 obtain ⟨X6a,x6a,X6b,x6b,X6c,x6c,X6d,x6d,rfl,hX6a,hX6b,hX6c,hX6d⟩:=Fy hv6
 refine O_s (Sa hs zeroValue33 rfl fun b6 _ hs=>O_n (Sg hs rfl (rfl) fun _ hs=>Wp 4 [0] hs rfl ?_))
 replace hw:=hw.mono (hG20.trans hG22)
 refine O_s (Sp (Ts (n:=8) hw hwl dC) hs rfl fun v3 G' _ hx hG24 hs=>?_)
 obtain ⟨x,hxe⟩:∃ q,q=Lb wd 8:=⟨_,rfl⟩
 rw [← hxe] at hx
 have hxl:x.length≤8:=by rw [hxe,Nr];omega
 obtain ⟨Ax,cx,rfl,_⟩:=id hx
 refine Wp 5 [0,0] hs rfl ?_
 replace hT:=hT.mono (hG20.trans (hG22.trans hG24))
 replace hX6a:=hX6a.mono hG24
 replace hX6b:=hX6b.mono hG24
 replace hX6c:=hX6c.mono hG24
 replace hX6d:=hX6d.mono hG24
 refine O_s (Sp (dom_t ⟨_,_,_,_,rfl,hX6a,hX6b,hX6c,hX6d⟩ htokt hT oM) hs rfl fun v4 G' _ hR hG27 hs=>?_)
 obtain ⟨R8,hde8,hok8,hlm8⟩:=hR
 have hv8:=hde8.vals
 rw [hok8] at hv8
 obtain ⟨D8a,d8a,D8b,d8b,D8c,d8c,rfl,hD8a,hD8b,hD8c⟩:=hv8
 clear hde8
 refine Wp 3 [] hs rfl<|O_s (Sa hs zeroValue37 rfl fun b8 _ hs=>O_n (Sg hs rfl (rfl) fun _ hs=>Wp 4 [0] hs rfl<|O_s (Sp (Ro (show Bd _ _ [] from Sl.nil _ _) dC) hs rfl fun v5 G' _ hR hG31 hs=>?_)))
 obtain ⟨R10,hde10,hok10,hlm10,hn10⟩:=hR
 have hv10:=hde10.vals
 rw [hok10] at hv10
 obtain ⟨D10a,d10a,D10b,d10b,D10c,d10c,rfl,hD10a,hD10b,hD10c⟩:=hv10
 clear hde10
 refine Wp 3 [] hs rfl<|O_s (Sa hs zeroValue37 rfl fun b10 _ hs=>O_n (Sg hs rfl (rfl) fun _ hs=>Wp 5 [6,5,6,7,8,9,10,0] hs rfl ?_))
 replace hT:=hT.mono (hG27.trans hG31)
 refine O_s (Sp (not_t ⟨_,_,_,rfl,hD10a,hD10b,hD10c⟩ (Bf hlm10 hok10).1 (Bf hlm10 hok10).2.1 hT) hs rfl fun v6 G' _ hR hG36 hs=>?_)
 obtain ⟨R12,hde12,hok12,hlm12⟩:=hR
 have hv12:=hde12.vals
 rw [hok12] at hv12
 obtain ⟨D12a,d12a,D12b,d12b,D12c,d12c,rfl,hD12a,hD12b,hD12c⟩:=hv12
 clear hde12
 refine Wp 3 [] hs rfl<|O_s (Sa hs zeroValue37 rfl fun b12 _ hs=>O_n (Sg hs rfl (rfl) fun _ hs=>Wp 6 [0,1,0] hs rfl ?_))
 replace hT:=hT.mono hG36
 replace hD10a:=hD10a.mono hG36
 replace hD10b:=hD10b.mono hG36
 replace hD10c:=hD10c.mono hG36
 refine O_s (Sp (or_t ⟨_,_,_,rfl,hD10a,hD10b,hD10c⟩ ⟨_,_,_,rfl,hD12a,hD12b,hD12c⟩ (Bf hlm10 hok10).1 (Bf hlm12 hok12).1 (Bf hlm10 hok10).2.1 (Bf hlm12 hok12).2.1 hT) hs rfl fun v7 G' _ hR hG42 hs=>?_)
 obtain ⟨R14,hde14,_,hlm14⟩:=hR
 have hall:=all_one hlm14 fun w=>ors_all w ((Bf hlm10 hok10).2.2.2 w) (((Bf hlm12 hok12).2.2.2 w).trans (by rw [(Bf hlm10 hok10).2.2.2 w]))
 have hok14:=hall.1
 have hv14:=hde14.vals
 rw [hok14] at hv14
 obtain ⟨D14a,d14a,D14b,d14b,D14c,d14c,rfl,hD14a,hD14b,hD14c⟩:=hv14
 clear hde14
 refine Wp 3 [] hs rfl<|O_s (Sa hs zeroValue37 rfl fun b14 _ hs=>O_n (Sg hs rfl (rfl) fun _ hs=>Wp 6 [0,4,0] hs rfl ?_))
 have hGz:=hG27.trans (hG31.trans (hG36.trans hG42))
 replace hX6a:=hX6a.mono hGz
 replace hX6b:=hX6b.mono hGz
 replace hX6c:=hX6c.mono hGz
 replace hX6d:=hX6d.mono hGz
 replace hT:=hT.mono hG42
 refine O_s (Sp (Pg ⟨_,_,_,_,rfl,hX6a,hX6b,hX6c,hX6d⟩ ⟨_,_,_,rfl,hD14a,hD14b,hD14c⟩ htokt (Bf hlm14 hok14).1 (Bf hlm14 hok14).2.1 hT) hs rfl fun v8 G' _ hR hG48 hs=>?_)
 obtain ⟨R16,hde16,hok16,hlm16⟩:=hR
 replace hok16:=hok16 (by have:=Abg htmt hall.2.1;omega)
 have hv16:=hde16.vals
 rw [hok16] at hv16
 obtain ⟨D16a,d16a,D16b,d16b,D16c,d16c,rfl,hD16a,hD16b,hD16c⟩:=hv16
 clear hde16
 refine Wp 3 [] hs rfl<|O_s (Sa hs zeroValue37 rfl fun b16 _ hs=>O_n (Sg hs rfl (rfl) fun _ hs=>Wp 6 [7,5,6,7,8,9,16,17,5] hs rfl ?_))
 replace hx:=hx.mono (hG27.trans (hG31.trans (hG36.trans (hG42.trans hG48))))
 replace hT:=hT.mono hG48
 replace hX6a:=hX6a.mono hG48
 replace hX6b:=hX6b.mono hG48
 replace hX6c:=hX6c.mono hG48
 replace hX6d:=hX6d.mono hG48
 refine O_s (Sp (Lx ⟨_,_,_,_,rfl,hX6a,hX6b,hX6c,hX6d⟩ htokt hx hT oM) hs rfl fun v9 G' _ hR hG54 hs=>?_)
 obtain ⟨A54,c54,o54,rfl,ho54,hb54⟩:=hR
 refine Wp 20 [0,4] hs rfl ?_
 have hGz:=hG31.trans (hG36.trans (hG42.trans (hG48.trans hG54)))
 replace hD8a:=hD8a.mono hGz
 replace hD8b:=hD8b.mono hGz
 replace hD8c:=hD8c.mono hGz
 replace hT:=hT.mono hG54
 replace hx:=hx.mono hG54
 refine Dh 66 rfl rfl (Sp (Rh ⟨_,_,_,rfl,hD8a,hD8b,hD8c⟩ (Bf hlm8 hok8).1 (Bf hlm8 hok8).2.1 hx oM hT) hs rfl fun v10 G' _ hR hG69 hs=>?_)
 obtain rfl:=hR
 rw [(Bf hlm8 hok8).2.2.2]
 refine Wp 1 [] hs rfl<|Zg hs rfl (Mt underlying4 rfl rfl rfl<|Wp 4 [4,0] hs rfl ?_)
 have hGz:=hG54.trans hG69
 replace hD16a:=hD16a.mono hGz
 replace hD16b:=hD16b.mono hGz
 replace hD16c:=hD16c.mono hGz
 replace hD8a:=hD8a.mono hG69
 replace hD8b:=hD8b.mono hG69
 replace hD8c:=hD8c.mono hG69
 refine Dh 73 rfl rfl (Sp (Ms ⟨_,_,_,rfl,hD8a,hD8b,hD8c⟩ ⟨_,_,_,rfl,hD16a,hD16b,hD16c⟩ (smR hlm8) (Tx hlm8 hlm16 (vU hall.2.2)).2) hs rfl fun v11 G' _ hR hG76 hs=>?_)
 obtain rfl:=hR
 refine Wp 3 [1,4] hs rfl<|As<|Zz results6 rfl ?_
 exact hs.q rfl
end Go.Proofs.YtmohebpaonkaeaaGreatDoor
