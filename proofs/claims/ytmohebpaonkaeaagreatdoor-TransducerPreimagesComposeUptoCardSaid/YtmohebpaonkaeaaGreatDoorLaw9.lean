/- The walk of the law TransducerPreimagesCompose: the call returns true, whatever its arguments read, and changes nothing. -/
import Derived.Test.YtmohebpaonkaeaaGreatDoorMF
set_option maxHeartbeats 4000000
set_option maxRecDepth 10000
set_option linter.unusedVariables false
set_option linter.unusedSimpArgs false
set_option linter.unusedSectionVars false
namespace Go.Proofs.YtmohebpaonkaeaaGreatDoor
open Go Go.Ex Go.RowKit Go.Proofs.Tryz
theorem lpco_ok {G:Ah} {zt ft:UInt8} {tot out ent:List UInt8} {vat vbt vct:Value} (htot:Bd G vat tot) (hout:Bd G vbt out) (hent:Bd G vct ent) (hlat:tot.length≤1000000000) (hlbt:out.length≤1000000000) (hlct:ent.length≤1000000000) {zu fu:UInt8} {tou ouu enu:List UInt8} {vau vbu vcu:Value} (htou:Bd G vau tou) (houu:Bd G vbu ouu) (henu:Bd G vcu enu) (hlau:tou.length≤1000000000) (hlbu:ouu.length≤1000000000) (hlcu:enu.length≤1000000000) {yd ad:UInt8} {tdd:List UInt8} {vdd:Value} (htdd:Bd G vdd tdd) (hldd:tdd.length≤1000000000) (hT:Tab G) :
  Ba prog 9 [.agg #[.int .u8 (zt.toNat:Int),vat,vbt,.int .u8 (ft.toNat:Int),vct],.agg #[.int .u8 (zu.toNat:Int),vau,vbu,.int .u8 (fu.toNat:Int),vcu],.agg #[.int .u8 (yd.toNat:Int),vdd,.int .u8 (ad.toNat:Int)]] G [] fun r _ H'=>H'=[]∧r=Vt:=by
 obtain ⟨Aat,cat,rfl,_⟩:=id htot
 obtain ⟨Abt,cbt,rfl,_⟩:=id hout
 obtain ⟨Act,cct,rfl,_⟩:=id hent
 obtain ⟨t,hqt⟩:∃ q,q=Mn ⟨zt.toNat,tot,out,ft.toNat,ent⟩:=⟨_,rfl⟩
 obtain ⟨htokt,htmt⟩:Cn7.TrOk t∧t.moves.length≤3:=by rw [hqt];exact Cn7.madeT_ok _
 obtain ⟨Aau,cau,rfl,_⟩:=id htou
 obtain ⟨Abu,cbu,rfl,_⟩:=id houu
 obtain ⟨Acu,ccu,rfl,_⟩:=id henu
 obtain ⟨u,hqu⟩:∃ q,q=Mn ⟨zu.toNat,tou,ouu,fu.toNat,enu⟩:=⟨_,rfl⟩
 obtain ⟨htoku,htmu⟩:Cn7.TrOk u∧u.moves.length≤3:=by rw [hqu];exact Cn7.madeT_ok _
 obtain ⟨Add,cdd,rfl,_⟩:=id htdd
 obtain ⟨d,hqd⟩:∃ q,q=Wh ⟨yd.toNat,tdd,ad.toNat⟩:=⟨_,rfl⟩
 obtain ⟨hkd,hnd⟩:Cn7.DOk d∧d.next.length≤5:=by rw [hqd];exact Cn7.madeD_ok _
 refine Ba.of_T [(0,_),(1,_),(2,_)] func9 rfl ntmps9 sM rfl fun w0 hs=>?_
 have htot0:=htot
 have hout0:=hout
 have hent0:=hent
 have htou0:=htou
 have houu0:=houu
 have henu0:=henu
 have htdd0:=htdd
 have hT0:=hT
 refine Wt 2 [] hs rfl<|O_s (Sb hs rfl fun b3 _ hs=>O_s (Sb hs rfl fun b4 _ hs=>O_s (Sb hs rfl fun b5 _ hs=>Wp 4 [0] hs rfl<|O_s (Sp (Qc hT) hs rfl fun v1 G' _ hR hG19 hs=>?_))))
 obtain rfl:=hR
 refine Wp 5 [0,2] hs rfl ?_
 replace htot:=htot.mono hG19
 replace hout:=hout.mono hG19
 replace hent:=hent.mono hG19
 refine O_s (Sp (Ie htot hout hent hlat hlbt hlct) hs rfl fun v2 G' _ hv8 hG21 hs=>?_)
 rw [← hqt] at hv8
 obtain ⟨X8a,x8a,X8b,x8b,X8c,x8c,X8d,x8d,rfl,hX8a,hX8b,hX8c,hX8d⟩:=Fy hv8
 refine O_s (Sa hs zeroValue33 rfl fun b8 _ hs=>O_n (Sg hs rfl (rfl) fun _ hs=>Wp 4 [0,2] hs rfl ?_))
 have hGz:=hG19.trans hG21
 replace htou:=htou.mono hGz
 replace houu:=houu.mono hGz
 replace henu:=henu.mono hGz
 refine O_s (Sp (Ie htou houu henu hlau hlbu hlcu) hs rfl fun v3 G' _ hv9 hG23 hs=>?_)
 rw [← hqu] at hv9
 obtain ⟨X9a,x9a,X9b,x9b,X9c,x9c,X9d,x9d,rfl,hX9a,hX9b,hX9c,hX9d⟩:=Fy hv9
 refine O_s (Sa hs zeroValue33 rfl fun b9 _ hs=>O_n (Sg hs rfl (rfl) fun _ hs=>Wp 4 [0,2] hs rfl ?_))
 replace htdd:=htdd.mono (hG19.trans (hG21.trans hG23))
 refine O_s (Sp (Tu htdd hldd) hs rfl fun v4 G' _ hv10 hG25 hs=>?_)
 rw [← hqd] at hv10
 replace hv10:=Tw hv10
 obtain ⟨D10a,d10a,D10b,d10b,D10c,d10c,rfl,hD10a,hD10b,hD10c⟩:=hv10
 refine O_s (Sa hs zeroValue37 rfl fun b10 _ hs=>O_n (Sg hs rfl (rfl) fun _ hs=>Wp 5 [0,2,1] hs rfl ?_))
 replace hT:=hT.mono (hG19.trans (hG21.trans (hG23.trans hG25)))
 have hGz:=hG23.trans hG25
 replace hX8a:=hX8a.mono hGz
 replace hX8b:=hX8b.mono hGz
 replace hX8c:=hX8c.mono hGz
 replace hX8d:=hX8d.mono hGz
 replace hX9a:=hX9a.mono hG25
 replace hX9b:=hX9b.mono hG25
 replace hX9c:=hX9c.mono hG25
 replace hX9d:=hX9d.mono hG25
 refine O_s (Sp (mA ⟨_,_,_,_,rfl,hX8a,hX8b,hX8c,hX8d⟩ ⟨_,_,_,_,rfl,hX9a,hX9b,hX9c,hX9d⟩ htokt htoku hT) hs rfl fun v5 G' _ hR hG29 hs=>?_)
 obtain ⟨R11,hte11,hcm11⟩:=hR
 obtain ⟨X11a,x11a,X11b,x11b,X11c,x11c,X11d,x11d,rfl,hX11a,hX11b,hX11c,hX11d⟩:=hte11.vals
 clear hte11
 refine Wp 3 [] hs rfl<|O_s (Sa hs zeroValue33 rfl fun b11 _ hs=>O_n (Sg hs rfl (rfl) fun _ hs=>Wp 6 [6,7,8,9,10,11,12] hs rfl ?_))
 replace hT:=hT.mono hG29
 replace hX8a:=hX8a.mono hG29
 replace hX8b:=hX8b.mono hG29
 replace hX8c:=hX8c.mono hG29
 replace hX8d:=hX8d.mono hG29
 replace hX9a:=hX9a.mono hG29
 replace hX9b:=hX9b.mono hG29
 replace hX9c:=hX9c.mono hG29
 replace hX9d:=hX9d.mono hG29
 replace hD10a:=hD10a.mono hG29
 replace hD10b:=hD10b.mono hG29
 replace hD10c:=hD10c.mono hG29
 refine Zy hs (Yc rfl (fun h33=>?_) fun h33=>?_)
 ·
  refine Wp 7 [0] hs rfl<|Zg hs rfl (Hn rfl rfl rfl (okT_no h33)<|Wp 3 [0] hs rfl<|As<|Zz results9 rfl ?_)
  exact hs.q rfl
 have hC:=hcm11 oM
 refine Wp 7 [0,0,1] hs rfl<|O_s (Sp (Pg ⟨_,_,_,_,rfl,hX11a,hX11b,hX11c,hX11d⟩ ⟨_,_,_,rfl,hD10a,hD10b,hD10c⟩ hC.1 hkd oM hT) hs rfl fun v6 G' _ hR hG42 hs=>?_)
 obtain ⟨R13,hde13,hok13,hlm13⟩:=hR
 have hv13:=hde13.vals
 obtain ⟨D13a,d13a,D13b,d13b,D13c,d13c,rfl,hD13a,hD13b,hD13c⟩:=hv13
 clear hde13
 refine Wp 3 [] hs rfl<|O_s (Sa hs zeroValue37 rfl fun b13 _ hs=>O_n (Sg hs rfl (rfl) fun _ hs=>Wp 6 [0,3,2] hs rfl ?_))
 replace hT:=hT.mono hG42
 replace hX9a:=hX9a.mono hG42
 replace hX9b:=hX9b.mono hG42
 replace hX9c:=hX9c.mono hG42
 replace hX9d:=hX9d.mono hG42
 replace hD10a:=hD10a.mono hG42
 replace hD10b:=hD10b.mono hG42
 replace hD10c:=hD10c.mono hG42
 refine O_s (Sp (Pg ⟨_,_,_,_,rfl,hX9a,hX9b,hX9c,hX9d⟩ ⟨_,_,_,rfl,hD10a,hD10b,hD10c⟩ htoku hkd oM hT) hs rfl fun v7 G' _ hR hG48 hs=>?_)
 obtain ⟨R15,hde15,hok15,hlm15⟩:=hR
 have hv15:=hde15.vals
 obtain ⟨D15a,d15a,D15b,d15b,D15c,d15c,rfl,hD15a,hD15b,hD15c⟩:=hv15
 clear hde15
 refine Wp 3 [] hs rfl<|O_s (Sa hs zeroValue37 rfl fun b15 _ hs=>O_n (Sg hs rfl (rfl) fun _ hs=>Wp 6 [0,5,0] hs rfl ?_))
 have hGz:=hG42.trans hG48
 replace hX8a:=hX8a.mono hGz
 replace hX8b:=hX8b.mono hGz
 replace hX8c:=hX8c.mono hGz
 replace hX8d:=hX8d.mono hGz
 replace hT:=hT.mono hG48
 refine O_s (Sp (pre_e ⟨_,_,_,_,rfl,hX8a,hX8b,hX8c,hX8d⟩ ⟨_,_,_,rfl,hD15a,hD15b,hD15c⟩ htokt hlm15 hT) hs rfl fun v8 G' _ hR hG54 hs=>?_)
 obtain ⟨R17,e17,D17a,d17a,D17b,d17b,D17c,d17c,rfl,hD17a,hD17b,hD17c,hq17⟩:=hR
 refine Wp 3 [] hs rfl<|O_s (Sa hs zeroValue37 rfl fun b17 _ hs=>O_n (Sg hs rfl (rfl) fun _ hs=>Wp 7 [6,7,13,14,16,17,18] hs rfl ?_))
 have hGz:=hG48.trans hG54
 replace hD13a:=hD13a.mono hGz
 replace hD13b:=hD13b.mono hGz
 replace hD13c:=hD13c.mono hGz
 refine Zg hs rfl (Yc rfl (fun h60=>?_) fun h60=>?_)
 ·
  refine Wp 16 [1,6] hs rfl<|As<|Zz results9 rfl ?_
  exact hs.q rfl
 refine Wp 2 [] hs rfl<|Zg hs rfl (Yc rfl (fun h63=>?_) fun h63=>?_)
 ·
  refine Wp 13 [1,6] hs rfl<|As<|Zz results9 rfl ?_
  exact hs.q rfl
 refine Wp 3 [] hs rfl<|Zg hs rfl (Yc rfl (fun h67=>?_) fun h67=>?_)
 ·
  refine Wp 9 [1,6] hs rfl<|As<|Zz results9 rfl ?_
  exact hs.q rfl
 obtain ⟨hok15b,hlm17⟩:=hq17 oM
 refine Wp 4 [2,0] hs rfl<|Dh 69 rfl rfl (Sp (Ms ⟨_,_,_,rfl,hD13a,hD13b,hD13c⟩ ⟨_,_,_,rfl,hD17a,hD17b,hD17c⟩ (smR hlm13) (Tx hlm13 hlm17 (vV hC.2 (Bf hlm15 hok15b).2.2.2)).2) hs rfl fun v9 G' _ hR hG72 hs=>?_)
 obtain rfl:=hR
 refine Wp 4 [1,6] hs rfl<|As<|Zz results9 rfl ?_
 exact hs.q rfl
end Go.Proofs.YtmohebpaonkaeaaGreatDoor
