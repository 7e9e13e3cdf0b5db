/- The walk of the law TransducerPreimages: the call returns true, whatever its arguments read, and changes nothing. -/
import Derived.Test.YtmohebpaonkaeaaGreatDoorMF
set_option maxHeartbeats 4000000
set_option maxRecDepth 10000
set_option linter.unusedVariables false
set_option linter.unusedSimpArgs false
set_option linter.unusedSectionVars false
namespace Go.Proofs.YtmohebpaonkaeaaGreatDoor
open Go Go.Ex Go.RowKit Go.Proofs.Tryz
theorem lprs_ok7 {G:Ah} {zt ft:UInt8} {tot out ent:List UInt8} {vat vbt vct:Value} (htot:Bd G vat tot) (hout:Bd G vbt out) (hent:Bd G vct ent) (hlat:tot.length≤1000000000) (hlbt:out.length≤1000000000) (hlct:ent.length≤1000000000) {yd ad:UInt8} {tdd:List UInt8} {vdd:Value} (htdd:Bd G vdd tdd) (hldd:tdd.length≤1000000000) {ye ae:UInt8} {tde:List UInt8} {vde:Value} (htde:Bd G vde tde) (hlde:tde.length≤1000000000) {wd:List UInt8} {vw:Value} (hw:Bd G vw wd) (hwl:wd.length≤1000000000) (hT:Tab G) :
  Ba prog 11 [.agg #[.int .u8 (zt.toNat:Int),vat,vbt,.int .u8 (ft.toNat:Int),vct],.agg #[.int .u8 (yd.toNat:Int),vdd,.int .u8 (ad.toNat:Int),.int .u8 (ye.toNat:Int),vde,.int .u8 (ae.toNat:Int)],vw] G [] fun r _ H'=>H'=[]∧r=Vt:=by
 obtain ⟨Aat,cat,rfl,_⟩:=id htot
 obtain ⟨Abt,cbt,rfl,_⟩:=id hout
 obtain ⟨Act,cct,rfl,_⟩:=id hent
 obtain ⟨t,hqt⟩:∃ q,q=Mn ⟨zt.toNat,tot,out,ft.toNat,ent⟩:=⟨_,rfl⟩
 obtain ⟨htokt,htmt⟩:Cn7.TrOk t∧t.moves.length≤3:=by rw [hqt];exact Cn7.madeT_ok _
 obtain ⟨Add,cdd,rfl,_⟩:=id htdd
 obtain ⟨d,hqd⟩:∃ q,q=Wh ⟨yd.toNat,tdd,ad.toNat⟩:=⟨_,rfl⟩
 obtain ⟨hkd,hnd⟩:Cn7.DOk d∧d.next.length≤5:=by rw [hqd];exact Cn7.madeD_ok _
 obtain ⟨Ade,cde,rfl,_⟩:=id htde
 obtain ⟨e,hqe⟩:∃ q,q=Wh ⟨ye.toNat,tde,ae.toNat⟩:=⟨_,rfl⟩
 obtain ⟨hke,hne⟩:Cn7.DOk e∧e.next.length≤5:=by rw [hqe];exact Cn7.madeD_ok _
 obtain ⟨Aw,cw,rfl,_⟩:=id hw
 refine Ba.of_T [(0,_),(1,_),(2,_)] func11 rfl ntmps11 sM rfl fun w0 hs=>?_
 have htot0:=htot
 have hout0:=hout
 have hent0:=hent
 have htdd0:=htdd
 have htde0:=htde
 have hw0:=hw
 have hT0:=hT
 refine Wt 2 [] hs rfl<|O_s (Sb hs rfl fun b3 _ hs=>O_s (Sb hs rfl fun b4 _ hs=>Wp 4 [0] hs rfl<|O_s (Sp (Qc hT) hs rfl fun v1 G' _ hR hG24 hs=>?_)))
 obtain rfl:=hR
 refine Wp 5 [0,1] hs rfl ?_
 replace htot:=htot.mono hG24
 replace hout:=hout.mono hG24
 replace hent:=hent.mono hG24
 refine O_s (Sp (Ie htot hout hent hlat hlbt hlct) hs rfl fun v2 G' _ hv8 hG26 hs=>?_)
 rw [← hqt] at hv8
 obtain ⟨X8a,x8a,X8b,x8b,X8c,x8c,X8d,x8d,rfl,hX8a,hX8b,hX8c,hX8d⟩:=Fy hv8
 refine O_s (Sa hs zeroValue33 rfl fun b8 _ hs=>O_n (Sg hs rfl (rfl) fun _ hs=>Wp 4 [0] hs rfl ?_))
 replace hw:=hw.mono (hG24.trans hG26)
 refine O_s (Sp (Ts (n:=8) hw hwl dC) hs rfl fun v3 G' _ hx hG28 hs=>?_)
 obtain ⟨x,hxe⟩:∃ q,q=Lb wd 8:=⟨_,rfl⟩
 rw [← hxe] at hx
 have hxl:x.length≤8:=by rw [hxe,Nr];omega
 obtain ⟨Ax,cx,rfl,_⟩:=id hx
 refine Wp 4 [0] hs rfl<|Zy hs (Jh 0 underlying67 sizeOf26 rfl rfl rfl dC (m:=0) rfl<|Wp 1 [1] hs rfl ?_)
 replace htdd:=htdd.mono (hG24.trans (hG26.trans hG28))
 refine O_s (Sp (Tu htdd hldd) hs rfl fun v4 G' _ hv10 hG31 hs=>?_)
 rw [← hqd] at hv10
 replace hv10:=Tw hv10
 obtain ⟨D10a,d10a,D10b,d10b,D10c,d10c,rfl,hD10a,hD10b,hD10c⟩:=hv10
 refine O_s (Sa hs zeroValue37 rfl fun b10 _ hs=>O_n (Sg hs rfl (rfl) fun _ hs=>Wp 3 [0] hs rfl<|Zy hs (Jh 1 underlying67 sizeOf26 rfl rfl rfl dC (m:=3) rfl<|Wp 1 [2] hs rfl ?_)))
 replace htde:=htde.mono (hG24.trans (hG26.trans (hG28.trans hG31)))
 refine O_s (Sp (Tu htde hlde) hs rfl fun v5 G' _ hv11 hG34 hs=>?_)
 rw [← hqe] at hv11
 replace hv11:=Tw hv11
 obtain ⟨D11a,d11a,D11b,d11b,D11c,d11c,rfl,hD11a,hD11b,hD11c⟩:=hv11
 refine O_s (Sa hs zeroValue37 rfl fun b11 _ hs=>O_n (Sg hs rfl (rfl) fun _ hs=>Wp 5 [5,7,8,9,10,11,2,1] hs rfl ?_))
 replace hT:=hT.mono (hG24.trans (hG26.trans (hG28.trans (hG31.trans hG34))))
 have hGz:=hG28.trans (hG31.trans hG34)
 replace hX8a:=hX8a.mono hGz
 replace hX8b:=hX8b.mono hGz
 replace hX8c:=hX8c.mono hGz
 replace hX8d:=hX8d.mono hGz
 replace hD10a:=hD10a.mono hG34
 replace hD10b:=hD10b.mono hG34
 replace hD10c:=hD10c.mono hG34
 refine O_s (Sp (Pg ⟨_,_,_,_,rfl,hX8a,hX8b,hX8c,hX8d⟩ ⟨_,_,_,rfl,hD10a,hD10b,hD10c⟩ htokt hkd oM hT) hs rfl fun v6 G' _ hR hG38 hs=>?_)
 obtain ⟨R12,hde12,hok12,hlm12⟩:=hR
 replace hok12:=hok12 (by have:=Abg htmt hnd;omega)
 have hv12:=hde12.vals
 rw [hok12] at hv12
 obtain ⟨D12a,d12a,D12b,d12b,D12c,d12c,rfl,hD12a,hD12b,hD12c⟩:=hv12
 clear hde12
 refine Wp 3 [] hs rfl<|O_s (Sa hs zeroValue37 rfl fun b12 _ hs=>O_n (Sg hs rfl (rfl) fun _ hs=>Wp 6 [0,3,1] hs rfl ?_))
 replace hT:=hT.mono hG38
 replace hX8a:=hX8a.mono hG38
 replace hX8b:=hX8b.mono hG38
 replace hX8c:=hX8c.mono hG38
 replace hX8d:=hX8d.mono hG38
 replace hD11a:=hD11a.mono hG38
 replace hD11b:=hD11b.mono hG38
 replace hD11c:=hD11c.mono hG38
 refine O_s (Sp (Pg ⟨_,_,_,_,rfl,hX8a,hX8b,hX8c,hX8d⟩ ⟨_,_,_,rfl,hD11a,hD11b,hD11c⟩ htokt hke oM hT) hs rfl fun v7 G' _ hR hG44 hs=>?_)
 obtain ⟨R14,hde14,hok14,hlm14⟩:=hR
 replace hok14:=hok14 (by have:=Abg htmt hne;omega)
 have hv14:=hde14.vals
 rw [hok14] at hv14
 obtain ⟨D14a,d14a,D14b,d14b,D14c,d14c,rfl,hD14a,hD14b,hD14c⟩:=hv14
 clear hde14
 refine Wp 3 [] hs rfl<|O_s (Sa hs zeroValue37 rfl fun b14 _ hs=>O_n (Sg hs rfl (rfl) fun _ hs=>Wp 6 [0,4] hs rfl ?_))
 replace hx:=hx.mono (hG31.trans (hG34.trans (hG38.trans hG44)))
 replace hT:=hT.mono hG44
 replace hX8a:=hX8a.mono hG44
 replace hX8b:=hX8b.mono hG44
 replace hX8c:=hX8c.mono hG44
 replace hX8d:=hX8d.mono hG44
 refine O_s (Sp (Lx ⟨_,_,_,_,rfl,hX8a,hX8b,hX8c,hX8d⟩ htokt hx hT oM) hs rfl fun v8 G' _ hR hG50 hs=>?_)
 obtain ⟨A50,c50,o50,rfl,ho50,hb50⟩:=hR
 refine Wp 18 [11,7,8,9,10,11,12,13,14,15,16,17,1] hs rfl ?_
 have hGz:=hG44.trans hG50
 replace hD12a:=hD12a.mono hGz
 replace hD12b:=hD12b.mono hGz
 replace hD12c:=hD12c.mono hGz
 replace hT:=hT.mono hG50
 replace hx:=hx.mono hG50
 refine Dh 59 rfl rfl (Sp (Rh ⟨_,_,_,rfl,hD12a,hD12b,hD12c⟩ (Bf hlm12 hok12).1 (Bf hlm12 hok12).2.1 hx oM hT) hs rfl fun v9 G' _ hR hG62 hs=>?_)
 obtain rfl:=hR
 rw [(Bf hlm12 hok12).2.2.2]
 refine Wp 2 [] hs rfl ?_
 have hGz:=hG38.trans (hG44.trans (hG50.trans hG62))
 replace hD10a:=hD10a.mono hGz
 replace hD10b:=hD10b.mono hGz
 replace hD10c:=hD10c.mono hGz
 have hGz:=hG44.trans (hG50.trans hG62)
 replace hD11a:=hD11a.mono hGz
 replace hD11b:=hD11b.mono hGz
 replace hD11c:=hD11c.mono hGz
 have hGz:=hG50.trans hG62
 replace hX8a:=hX8a.mono hGz
 replace hX8b:=hX8b.mono hGz
 replace hX8c:=hX8c.mono hGz
 replace hX8d:=hX8d.mono hGz
 replace hD14a:=hD14a.mono hGz
 replace hD14b:=hD14b.mono hGz
 replace hD14c:=hD14c.mono hGz
 replace hT:=hT.mono hG62
 replace hD12a:=hD12a.mono hG62
 replace hD12b:=hD12b.mono hG62
 replace hD12c:=hD12c.mono hG62
 replace hb50:=hb50.mono hG62
 cases hb64:(Bo t 0 x).isSome
 ·
  refine Wp 4 [] hs rfl<|Zg hs rfl (Qd underlying4 rfl rfl (langP_f hb64)<|Wp 8 [7,7,8,10,11,12,14,70,3,2] hs rfl<|O_s (Sp (tB ⟨_,_,_,rfl,hD10a,hD10b,hD10c⟩ ⟨_,_,_,rfl,hD11a,hD11b,hD11c⟩ hkd hke oM oM hT) hs rfl fun v10 G' _ hR hG74 hs=>?_))
  obtain ⟨R18,hde18,hok18,hlm18⟩:=hR
  replace hok18:=hok18 (by have:=Abg hnd hne;omega)
  have hv18:=hde18.vals
  rw [hok18] at hv18
  obtain ⟨D18a,d18a,D18b,d18b,D18c,d18c,rfl,hD18a,hD18b,hD18c⟩:=hv18
  clear hde18
  refine Wp 3 [] hs rfl<|O_s (Sa hs zeroValue37 rfl fun b18 _ hs=>O_n (Sg hs rfl (rfl) fun _ hs=>Wp 6 [0,5,0] hs rfl ?_))
  replace hT:=hT.mono hG74
  replace hX8a:=hX8a.mono hG74
  replace hX8b:=hX8b.mono hG74
  replace hX8c:=hX8c.mono hG74
  replace hX8d:=hX8d.mono hG74
  refine O_s (Sp (Pg ⟨_,_,_,_,rfl,hX8a,hX8b,hX8c,hX8d⟩ ⟨_,_,_,rfl,hD18a,hD18b,hD18c⟩ htokt (Bf hlm18 hok18).1 (Bf hlm18 hok18).2.1 hT) hs rfl fun v11 G' _ hR hG80 hs=>?_)
  obtain ⟨R20,hde20,hok20,hlm20⟩:=hR
  have hv20:=hde20.vals
  obtain ⟨D20a,d20a,D20b,d20b,D20c,d20c,rfl,hD20a,hD20b,hD20c⟩:=hv20
  clear hde20
  refine Wp 3 [] hs rfl<|O_s (Sa hs zeroValue37 rfl fun b20 _ hs=>O_n (Sg hs rfl (rfl) fun _ hs=>Wp 6 [0,3,2] hs rfl ?_))
  have hGz:=hG74.trans hG80
  replace hD12a:=hD12a.mono hGz
  replace hD12b:=hD12b.mono hGz
  replace hD12c:=hD12c.mono hGz
  replace hD14a:=hD14a.mono hGz
  replace hD14b:=hD14b.mono hGz
  replace hD14c:=hD14c.mono hGz
  replace hT:=hT.mono hG80
  refine O_s (Sp (tB ⟨_,_,_,rfl,hD12a,hD12b,hD12c⟩ ⟨_,_,_,rfl,hD14a,hD14b,hD14c⟩ (Bf hlm12 hok12).1 (Bf hlm14 hok14).1 (Bf hlm12 hok12).2.1 (Bf hlm14 hok14).2.1 hT) hs rfl fun v12 G' _ hR hG86 hs=>?_)
  obtain ⟨R22,hde22,hok22,hlm22⟩:=hR
  have hv22:=hde22.vals
  obtain ⟨D22a,d22a,D22b,d22b,D22c,d22c,rfl,hD22a,hD22b,hD22c⟩:=hv22
  clear hde22
  refine Wp 3 [] hs rfl<|O_s (Sa hs zeroValue37 rfl fun b22 _ hs=>O_n (Sg hs rfl (rfl) fun _ hs=>Wp 8 [5,7,20,21,22,23] hs rfl ?_))
  have hsm:=Tx hlm20 hlm22 fun w=>(eW (Bf hlm18 hok18).2.2.2 w).trans (by rw [(Bf hlm12 hok12).2.2.2 w,(Bf hlm14 hok14).2.2.2 w])
  refine Zg hs rfl (Hn rfl rfl rfl (hsm.1)<|Wp 4 [1,0] hs rfl ?_)
  replace hD20a:=hD20a.mono hG86
  replace hD20b:=hD20b.mono hG86
  replace hD20c:=hD20c.mono hG86
  refine Dh 95 rfl rfl (Sp (Ms ⟨_,_,_,rfl,hD20a,hD20b,hD20c⟩ ⟨_,_,_,rfl,hD22a,hD22b,hD22c⟩ (smR hlm20) hsm.2) hs rfl fun v13 G' _ hR hG98 hs=>?_)
  obtain rfl:=hR
  refine Wp 3 [0] hs rfl<|As<|Zz results11 rfl ?_
  exact hs.q rfl
 refine Wp 2 [3] hs rfl<|Dh 64 rfl rfl (Sp (Rh ⟨_,_,_,rfl,hD10a,hD10b,hD10c⟩ hkd oM hb50 (by have:=Fh htokt x;rw [← ho50] at this;omega) hT) hs rfl fun v14 G' _ hR hG67 hs=>?_)
 obtain rfl:=hR
 refine Wp 1 [] hs rfl<|Zg hs rfl (Qd underlying4 rfl rfl (by rw [langP_t hb64,ho50])<|Wp 8 [7,7,8,10,11,12,14,70,3,2] hs rfl ?_)
 replace hT:=hT.mono hG67
 replace hD10a:=hD10a.mono hG67
 replace hD10b:=hD10b.mono hG67
 replace hD10c:=hD10c.mono hG67
 replace hD11a:=hD11a.mono hG67
 replace hD11b:=hD11b.mono hG67
 replace hD11c:=hD11c.mono hG67
 refine O_s (Sp (tB ⟨_,_,_,rfl,hD10a,hD10b,hD10c⟩ ⟨_,_,_,rfl,hD11a,hD11b,hD11c⟩ hkd hke oM oM hT) hs rfl fun v15 G' _ hR hG74 hs=>?_)
 obtain ⟨R18,hde18,hok18,hlm18⟩:=hR
 replace hok18:=hok18 (by have:=Abg hnd hne;omega)
 have hv18:=hde18.vals
 rw [hok18] at hv18
 obtain ⟨D18a,d18a,D18b,d18b,D18c,d18c,rfl,hD18a,hD18b,hD18c⟩:=hv18
 clear hde18
 refine Wp 3 [] hs rfl<|O_s (Sa hs zeroValue37 rfl fun b18 _ hs=>O_n (Sg hs rfl (rfl) fun _ hs=>Wp 6 [0,5,0] hs rfl ?_))
 have hGz:=hG67.trans hG74
 replace hX8a:=hX8a.mono hGz
 replace hX8b:=hX8b.mono hGz
 replace hX8c:=hX8c.mono hGz
 replace hX8d:=hX8d.mono hGz
 replace hT:=hT.mono hG74
 refine O_s (Sp (Pg ⟨_,_,_,_,rfl,hX8a,hX8b,hX8c,hX8d⟩ ⟨_,_,_,rfl,hD18a,hD18b,hD18c⟩ htokt (Bf hlm18 hok18).1 (Bf hlm18 hok18).2.1 hT) hs rfl fun v16 G' _ hR hG80 hs=>?_)
 obtain ⟨R20,hde20,hok20,hlm20⟩:=hR
 have hv20:=hde20.vals
 obtain ⟨D20a,d20a,D20b,d20b,D20c,d20c,rfl,hD20a,hD20b,hD20c⟩:=hv20
 clear hde20
 refine Wp 3 [] hs rfl<|O_s (Sa hs zeroValue37 rfl fun b20 _ hs=>O_n (Sg hs rfl (rfl) fun _ hs=>Wp 6 [0,3,2] hs rfl ?_))
 have hGz:=hG67.trans (hG74.trans hG80)
 replace hD12a:=hD12a.mono hGz
 replace hD12b:=hD12b.mono hGz
 replace hD12c:=hD12c.mono hGz
 replace hD14a:=hD14a.mono hGz
 replace hD14b:=hD14b.mono hGz
 replace hD14c:=hD14c.mono hGz
 replace hT:=hT.mono hG80
 refine O_s (Sp (tB ⟨_,_,_,rfl,hD12a,hD12b,hD12c⟩ ⟨_,_,_,rfl,hD14a,hD14b,hD14c⟩ (Bf hlm12 hok12).1 (Bf hlm14 hok14).1 (Bf hlm12 hok12).2.1 (Bf hlm14 hok14).2.1 hT) hs rfl fun v17 G' _ hR hG86 hs=>?_)
 obtain ⟨R22,hde22,hok22,hlm22⟩:=hR
 have hv22:=hde22.vals
 obtain ⟨D22a,d22a,D22b,d22b,D22c,d22c,rfl,hD22a,hD22b,hD22c⟩:=hv22
 clear hde22
 refine Wp 3 [] hs rfl<|O_s (Sa hs zeroValue37 rfl fun b22 _ hs=>O_n (Sg hs rfl (rfl) fun _ hs=>Wp 8 [5,7,20,21,22,23] hs rfl ?_))
 have hsm:=Tx hlm20 hlm22 fun w=>(eW (Bf hlm18 hok18).2.2.2 w).trans (by rw [(Bf hlm12 hok12).2.2.2 w,(Bf hlm14 hok14).2.2.2 w])
 refine Zg hs rfl (Hn rfl rfl rfl (hsm.1)<|Wp 4 [1,0] hs rfl ?_)
 replace hD20a:=hD20a.mono hG86
 replace hD20b:=hD20b.mono hG86
 replace hD20c:=hD20c.mono hG86
 refine Dh 95 rfl rfl (Sp (Ms ⟨_,_,_,rfl,hD20a,hD20b,hD20c⟩ ⟨_,_,_,rfl,hD22a,hD22b,hD22c⟩ (smR hlm20) hsm.2) hs rfl fun v18 G' _ hR hG98 hs=>?_)
 obtain rfl:=hR
 refine Wp 3 [0] hs rfl<|As<|Zz results11 rfl ?_
 exact hs.q rfl
end Go.Proofs.YtmohebpaonkaeaaGreatDoor
