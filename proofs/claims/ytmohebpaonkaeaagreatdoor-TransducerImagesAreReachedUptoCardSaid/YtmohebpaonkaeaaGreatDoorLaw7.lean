/- The walk of the law TransducerImagesAreReached: the call returns true, whatever its arguments read, and changes nothing. -/
import Derived.Test.YtmohebpaonkaeaaGreatDoorMF
set_option maxHeartbeats 4000000
set_option maxRecDepth 10000
set_option linter.unusedVariables false
set_option linter.unusedSimpArgs false
set_option linter.unusedSectionVars false
namespace Go.Proofs.YtmohebpaonkaeaaGreatDoor
open Go Go.Ex Go.RowKit Go.Proofs.Tryz
theorem limr_ok {G:Ah} {zt ft:UInt8} {tot out ent:List UInt8} {vat vbt vct:Value} (htot:Bd G vat tot) (hout:Bd G vbt out) (hent:Bd G vct ent) (hlat:tot.length≤1000000000) (hlbt:out.length≤1000000000) (hlct:ent.length≤1000000000) {yd ad:UInt8} {tdd:List UInt8} {vdd:Value} (htdd:Bd G vdd tdd) (hldd:tdd.length≤1000000000) {wd:List UInt8} {vw:Value} (hw:Bd G vw wd) (hwl:wd.length≤1000000000) (hT:Tab G) :
  Ba prog 7 [.agg #[.int .u8 (zt.toNat:Int),vat,vbt,.int .u8 (ft.toNat:Int),vct],.agg #[.int .u8 (yd.toNat:Int),vdd,.int .u8 (ad.toNat:Int)],vw] G [] fun r _ H'=>H'=[]∧r=Vt:=by
 obtain ⟨Aat,cat,rfl,_⟩:=id htot
 obtain ⟨Abt,cbt,rfl,_⟩:=id hout
 obtain ⟨Act,cct,rfl,_⟩:=id hent
 obtain ⟨t,hqt⟩:∃ q,q=Mn ⟨zt.toNat,tot,out,ft.toNat,ent⟩:=⟨_,rfl⟩
 obtain ⟨htokt,htmt⟩:Cn7.TrOk t∧t.moves.length≤3:=by rw [hqt];exact Cn7.madeT_ok _
 obtain ⟨Add,cdd,rfl,_⟩:=id htdd
 obtain ⟨d,hqd⟩:∃ q,q=Wh ⟨yd.toNat,tdd,ad.toNat⟩:=⟨_,rfl⟩
 obtain ⟨hkd,hnd⟩:Cn7.DOk d∧d.next.length≤5:=by rw [hqd];exact Cn7.madeD_ok _
 obtain ⟨Aw,cw,rfl,_⟩:=id hw
 refine Ba.of_T [(0,_),(1,_),(2,_)] func7 rfl ntmps7 sM rfl fun w0 hs=>?_
 have htot0:=htot
 have hout0:=hout
 have hent0:=hent
 have htdd0:=htdd
 have hw0:=hw
 have hT0:=hT
 refine Wt 2 [] hs rfl<|O_s (Sb hs rfl fun b3 _ hs=>O_s (Sb hs rfl fun b4 _ hs=>Wp 4 [0] hs rfl<|O_s (Sp (Qc hT) hs rfl fun v1 G' _ hR hG23 hs=>?_)))
 obtain rfl:=hR
 refine Wp 5 [0,1] hs rfl ?_
 replace htot:=htot.mono hG23
 replace hout:=hout.mono hG23
 replace hent:=hent.mono hG23
 refine O_s (Sp (Ie htot hout hent hlat hlbt hlct) hs rfl fun v2 G' _ hv8 hG25 hs=>?_)
 rw [← hqt] at hv8
 obtain ⟨X8a,x8a,X8b,x8b,X8c,x8c,X8d,x8d,rfl,hX8a,hX8b,hX8c,hX8d⟩:=Fy hv8
 refine O_s (Sa hs zeroValue33 rfl fun b8 _ hs=>O_n (Sg hs rfl (rfl) fun _ hs=>Wp 4 [0,1] hs rfl ?_))
 replace htdd:=htdd.mono (hG23.trans hG25)
 refine O_s (Sp (Tu htdd hldd) hs rfl fun v3 G' _ hv9 hG27 hs=>?_)
 rw [← hqd] at hv9
 replace hv9:=Tw hv9
 obtain ⟨D9a,d9a,D9b,d9b,D9c,d9c,rfl,hD9a,hD9b,hD9c⟩:=hv9
 refine O_s (Sa hs zeroValue37 rfl fun b9 _ hs=>O_n (Sg hs rfl (rfl) fun _ hs=>Wp 5 [0,1,0] hs rfl ?_))
 replace hT:=hT.mono (hG23.trans (hG25.trans hG27))
 replace hX8a:=hX8a.mono hG27
 replace hX8b:=hX8b.mono hG27
 replace hX8c:=hX8c.mono hG27
 replace hX8d:=hX8d.mono hG27
 refine O_s (Sp (img_t ⟨_,_,_,_,rfl,hX8a,hX8b,hX8c,hX8d⟩ ⟨_,_,_,rfl,hD9a,hD9b,hD9c⟩ htokt hkd oM hT) hs rfl fun v4 G' _ hR hG31 hs=>?_)
 obtain ⟨R10,hde10,him⟩:=hR
 have hv10:=hde10.vals
 obtain ⟨D10a,d10a,D10b,d10b,D10c,d10c,rfl,hD10a,hD10b,hD10c⟩:=hv10
 clear hde10
 refine Wp 3 [] hs rfl<|O_s (Sa hs zeroValue37 rfl fun b10 _ hs=>O_n (Sg hs rfl (rfl) fun _ hs=>Wp 6 [6,2,7,8,9,10,11] hs rfl ?_))
 replace hw:=hw.mono (hG23.trans (hG25.trans (hG27.trans hG31)))
 replace hT:=hT.mono hG31
 replace hX8a:=hX8a.mono hG31
 replace hX8b:=hX8b.mono hG31
 replace hX8c:=hX8c.mono hG31
 replace hX8d:=hX8d.mono hG31
 replace hD9a:=hD9a.mono hG31
 replace hD9b:=hD9b.mono hG31
 replace hD9c:=hD9c.mono hG31
 refine Zy hs (Yc rfl (fun h35=>?_) fun h35=>?_)
 ·
  refine Wp 7 [0] hs rfl<|Zg hs rfl (Hn rfl rfl rfl (Rn h35)<|Wp 3 [0] hs rfl<|As<|Zz results7 rfl ?_)
  exact hs.q rfl
 have him:=him oM
 refine Wp 6 [0,0] hs rfl<|O_s (Sp (Tz ⟨_,_,_,rfl,hD10a,hD10b,hD10c⟩ him.1 him.2.1 hT) hs rfl fun v5 G' _ hR hG43 hs=>?_)
 obtain ⟨A43,c43,wl,okl,rfl,hb43,hi43,hl43⟩:=hR
 refine Wp 9 [0] hs rfl ?_
 replace hw:=hw.mono hG43
 refine O_s (Sp (Ts (n:=8) hw hwl dC) hs rfl fun v6 G' _ hx hG47 hs=>?_)
 obtain ⟨x,hxe⟩:∃ q,q=Lb wd 8:=⟨_,rfl⟩
 rw [← hxe] at hx
 have hxl:x.length≤8:=by rw [hxe,Nr];omega
 obtain ⟨Ax,cx,rfl,_⟩:=id hx
 refine Wp 7 [0] hs rfl ?_
 have hGz:=hG43.trans hG47
 replace hT:=hT.mono hGz
 replace hX8a:=hX8a.mono hGz
 replace hX8b:=hX8b.mono hGz
 replace hX8c:=hX8c.mono hGz
 replace hX8d:=hX8d.mono hGz
 replace hD9a:=hD9a.mono hGz
 replace hD9b:=hD9b.mono hGz
 replace hD9c:=hD9c.mono hGz
 replace hD10a:=hD10a.mono hGz
 replace hD10b:=hD10b.mono hGz
 replace hD10c:=hD10c.mono hGz
 replace hb43:=hb43.mono hG47
 refine Zy hs (Yc rfl (fun h50=>?_) fun h50=>?_)
 ·
  refine Wp 3 [] hs rfl<|Zg hs rfl (Yc rfl (fun h54=>?_) fun h54=>?_)
  ·
   refine Wp 10 [7,7,8,9,10,12,14,55,0] hs rfl<|O_s (Sp (Ro hb43 (show wl.length≤62 from oM)) hs rfl fun v7 G' _ hR hG59 hs=>?_)
   obtain ⟨R15,hde15,hok15,hlm15,hn15⟩:=hR
   have hv15:=hde15.vals
   rw [hok15] at hv15
   obtain ⟨D15a,d15a,D15b,d15b,D15c,d15c,rfl,hD15a,hD15b,hD15c⟩:=hv15
   clear hde15
   refine Wp 3 [] hs rfl<|O_s (Sa hs zeroValue37 rfl fun b15 _ hs=>O_n (Sg hs rfl (rfl) fun _ hs=>Wp 6 [0,3,0] hs rfl ?_))
   replace hT:=hT.mono hG59
   replace hX8a:=hX8a.mono hG59
   replace hX8b:=hX8b.mono hG59
   replace hX8c:=hX8c.mono hG59
   replace hX8d:=hX8d.mono hG59
   refine O_s (Sp (Pg ⟨_,_,_,_,rfl,hX8a,hX8b,hX8c,hX8d⟩ ⟨_,_,_,rfl,hD15a,hD15b,hD15c⟩ htokt (Bf hlm15 hok15).1 (Bf hlm15 hok15).2.1 hT) hs rfl fun v8 G' _ hR hG65 hs=>?_)
   obtain ⟨R17,hde17,hok17,hlm17⟩:=hR
   have hv17:=hde17.vals
   obtain ⟨D17a,d17a,D17b,d17b,D17c,d17c,rfl,hD17a,hD17b,hD17c⟩:=hv17
   clear hde17
   refine Wp 3 [] hs rfl<|O_s (Sa hs zeroValue37 rfl fun b17 _ hs=>O_n (Sg hs rfl (rfl) fun _ hs=>Wp 6 [0] hs rfl ?_))
   have hGz:=hG59.trans hG65
   replace hD9a:=hD9a.mono hGz
   replace hD9b:=hD9b.mono hGz
   replace hD9c:=hD9c.mono hGz
   replace hD10a:=hD10a.mono hGz
   replace hD10b:=hD10b.mono hGz
   replace hD10c:=hD10c.mono hGz
   replace hb43:=hb43.mono hGz
   replace hT:=hT.mono hG65
   refine Zy hs (Yc rfl (fun h69=>?_) fun h69=>?_)
   ·
    refine Wp 7 [7,7,9,10,14,17,18,69] hs rfl<|Zg hs rfl (Hn rfl rfl rfl (Rn h69)<|Wp 3 [0] hs rfl<|As<|Zz results7 rfl ?_)
    exact hs.q rfl
   replace hok17:Rp R17=0:=by omega
   refine Wp 7 [7,7,9,10,14,17,18,69,0,3] hs rfl<|O_s (Sp (and_t ⟨_,_,_,rfl,hD17a,hD17b,hD17c⟩ ⟨_,_,_,rfl,hD9a,hD9b,hD9c⟩ (Bf hlm17 hok17).1 hkd (Bf hlm17 hok17).2.1 oM hT) hs rfl fun v9 G' _ hR hG78 hs=>?_)
   obtain ⟨R19,hde19,hok19,hlm19⟩:=hR
   have hv19:=hde19.vals
   obtain ⟨D19a,d19a,D19b,d19b,D19c,d19c,rfl,hD19a,hD19b,hD19c⟩:=hv19
   clear hde19
   refine Wp 3 [] hs rfl<|O_s (Sa hs zeroValue37 rfl fun b19 _ hs=>O_n (Sg hs rfl (rfl) fun _ hs=>Wp 6 [0] hs rfl ?_))
   replace hT:=hT.mono hG78
   replace hD10a:=hD10a.mono hG78
   replace hD10b:=hD10b.mono hG78
   replace hD10c:=hD10c.mono hG78
   replace hb43:=hb43.mono hG78
   refine Zy hs (Yc rfl (fun h82=>?_) fun h82=>?_)
   ·
    refine Wp 7 [0] hs rfl<|Zg hs rfl (Hn rfl rfl rfl (Rn h82)<|Wp 3 [0] hs rfl<|As<|Zz results7 rfl ?_)
    exact hs.q rfl
   replace hok19:Rp R19=0:=by omega
   refine Wp 6 [0,0] hs rfl<|O_s (Sp (Tz ⟨_,_,_,rfl,hD19a,hD19b,hD19c⟩ (Bf hlm19 hok19).1 (Bf hlm19 hok19).2.1 hT) hs rfl fun v10 G' _ hR hG90 hs=>?_)
   obtain ⟨A90,c90,wr,okr,rfl,hb90,hi90,hl90⟩:=hR
   refine Wp 13 [0,3] hs rfl ?_
   replace hT:=hT.mono hG90
   replace hD10a:=hD10a.mono hG90
   replace hD10b:=hD10b.mono hG90
   replace hD10c:=hD10c.mono hG90
   replace hb43:=hb43.mono hG90
   refine Dh 94 rfl rfl (Sp (Rh ⟨_,_,_,rfl,hD10a,hD10b,hD10c⟩ him.1 him.2.1 hb43 oM hT) hs rfl fun v11 G' _ hR hG98 hs=>?_)
   obtain rfl:=hR
   refine Zg hs rfl (Mt underlying4 rfl rfl (Vr (Bf hlm15 hok15).2.2.2 (Bf hlm17 hok17).2.2.2 (Bf hlm19 hok19).2.2.2 him.2.2 hi90)<|Wp 3 [1,6] hs rfl<|As<|Zz results7 rfl ?_)
   exact hs.q rfl
  refine Wp 7 [7,7,8,9,10,12,14,55] hs rfl<|O_s (Sp (Ro hx (show x.length≤62 from oM)) hs rfl fun v12 G' _ hR hG59 hs=>?_)
  obtain ⟨R15,hde15,hok15,hlm15,hn15⟩:=hR
  have hv15:=hde15.vals
  rw [hok15] at hv15
  obtain ⟨D15a,d15a,D15b,d15b,D15c,d15c,rfl,hD15a,hD15b,hD15c⟩:=hv15
  clear hde15
  refine Wp 3 [] hs rfl<|O_s (Sa hs zeroValue37 rfl fun b15 _ hs=>O_n (Sg hs rfl (rfl) fun _ hs=>Wp 6 [0,3,0] hs rfl ?_))
  replace hT:=hT.mono hG59
  replace hX8a:=hX8a.mono hG59
  replace hX8b:=hX8b.mono hG59
  replace hX8c:=hX8c.mono hG59
  replace hX8d:=hX8d.mono hG59
  refine O_s (Sp (Pg ⟨_,_,_,_,rfl,hX8a,hX8b,hX8c,hX8d⟩ ⟨_,_,_,rfl,hD15a,hD15b,hD15c⟩ htokt (Bf hlm15 hok15).1 (Bf hlm15 hok15).2.1 hT) hs rfl fun v13 G' _ hR hG65 hs=>?_)
  obtain ⟨R17,hde17,hok17,hlm17⟩:=hR
  have hv17:=hde17.vals
  obtain ⟨D17a,d17a,D17b,d17b,D17c,d17c,rfl,hD17a,hD17b,hD17c⟩:=hv17
  clear hde17
  refine Wp 3 [] hs rfl<|O_s (Sa hs zeroValue37 rfl fun b17 _ hs=>O_n (Sg hs rfl (rfl) fun _ hs=>Wp 6 [0] hs rfl ?_))
  have hGz:=hG59.trans hG65
  replace hD9a:=hD9a.mono hGz
  replace hD9b:=hD9b.mono hGz
  replace hD9c:=hD9c.mono hGz
  replace hD10a:=hD10a.mono hGz
  replace hD10b:=hD10b.mono hGz
  replace hD10c:=hD10c.mono hGz
  replace hx:=hx.mono hGz
  replace hT:=hT.mono hG65
  refine Zy hs (Yc rfl (fun h69=>?_) fun h69=>?_)
  ·
   refine Wp 7 [0] hs rfl<|Zg hs rfl (Hn rfl rfl rfl (Rn h69)<|Wp 3 [1,6] hs rfl<|As<|Zz results7 rfl ?_)
   exact hs.q rfl
  replace hok17:Rp R17=0:=by omega
  refine Wp 7 [0,0,3] hs rfl<|O_s (Sp (and_t ⟨_,_,_,rfl,hD17a,hD17b,hD17c⟩ ⟨_,_,_,rfl,hD9a,hD9b,hD9c⟩ (Bf hlm17 hok17).1 hkd (Bf hlm17 hok17).2.1 oM hT) hs rfl fun v14 G' _ hR hG78 hs=>?_)
  obtain ⟨R19,hde19,hok19,hlm19⟩:=hR
  have hv19:=hde19.vals
  obtain ⟨D19a,d19a,D19b,d19b,D19c,d19c,rfl,hD19a,hD19b,hD19c⟩:=hv19
  clear hde19
  refine Wp 3 [] hs rfl<|O_s (Sa hs zeroValue37 rfl fun b19 _ hs=>O_n (Sg hs rfl (rfl) fun _ hs=>Wp 6 [5,7,10,14,19,20] hs rfl ?_))
  replace hT:=hT.mono hG78
  replace hD10a:=hD10a.mono hG78
  replace hD10b:=hD10b.mono hG78
  replace hD10c:=hD10c.mono hG78
  replace hx:=hx.mono hG78
  refine Zy hs (Yc rfl (fun h82=>?_) fun h82=>?_)
  ·
   refine Wp 7 [0] hs rfl<|Zg hs rfl (Hn rfl rfl rfl (Rn h82)<|Wp 3 [0] hs rfl<|As<|Zz results7 rfl ?_)
   exact hs.q rfl
  replace hok19:Rp R19=0:=by omega
  refine Wp 6 [0,0] hs rfl<|O_s (Sp (Tz ⟨_,_,_,rfl,hD19a,hD19b,hD19c⟩ (Bf hlm19 hok19).1 (Bf hlm19 hok19).2.1 hT) hs rfl fun v15 G' _ hR hG90 hs=>?_)
  obtain ⟨A90,c90,wr,okr,rfl,hb90,hi90,hl90⟩:=hR
  refine Wp 13 [0,3] hs rfl ?_
  replace hT:=hT.mono hG90
  replace hD10a:=hD10a.mono hG90
  replace hD10b:=hD10b.mono hG90
  replace hD10c:=hD10c.mono hG90
  replace hx:=hx.mono hG90
  refine Dh 94 rfl rfl (Sp (Rh ⟨_,_,_,rfl,hD10a,hD10b,hD10c⟩ him.1 him.2.1 hx oM hT) hs rfl fun v16 G' _ hR hG98 hs=>?_)
  obtain rfl:=hR
  refine Zg hs rfl (Mt underlying4 rfl rfl (Vr (Bf hlm15 hok15).2.2.2 (Bf hlm17 hok17).2.2.2 (Bf hlm19 hok19).2.2.2 him.2.2 hi90)<|Wp 3 [0] hs rfl<|As<|Zz results7 rfl ?_)
  exact hs.q rfl
 refine Wp 11 [7,7,8,9,10,12,14,55] hs rfl<|O_s (Sp (Ro hx (show x.length≤62 from oM)) hs rfl fun v17 G' _ hR hG59 hs=>?_)
 obtain ⟨R15,hde15,hok15,hlm15,hn15⟩:=hR
 have hv15:=hde15.vals
 rw [hok15] at hv15
 obtain ⟨D15a,d15a,D15b,d15b,D15c,d15c,rfl,hD15a,hD15b,hD15c⟩:=hv15
 clear hde15
 refine Wp 3 [] hs rfl<|O_s (Sa hs zeroValue37 rfl fun b15 _ hs=>O_n (Sg hs rfl (rfl) fun _ hs=>Wp 6 [0,3,0] hs rfl ?_))
 replace hT:=hT.mono hG59
 replace hX8a:=hX8a.mono hG59
 replace hX8b:=hX8b.mono hG59
 replace hX8c:=hX8c.mono hG59
 replace hX8d:=hX8d.mono hG59
 refine O_s (Sp (Pg ⟨_,_,_,_,rfl,hX8a,hX8b,hX8c,hX8d⟩ ⟨_,_,_,rfl,hD15a,hD15b,hD15c⟩ htokt (Bf hlm15 hok15).1 (Bf hlm15 hok15).2.1 hT) hs rfl fun v18 G' _ hR hG65 hs=>?_)
 obtain ⟨R17,hde17,hok17,hlm17⟩:=hR
 have hv17:=hde17.vals
 obtain ⟨D17a,d17a,D17b,d17b,D17c,d17c,rfl,hD17a,hD17b,hD17c⟩:=hv17
 clear hde17
 refine Wp 3 [] hs rfl<|O_s (Sa hs zeroValue37 rfl fun b17 _ hs=>O_n (Sg hs rfl (rfl) fun _ hs=>Wp 6 [0] hs rfl ?_))
 have hGz:=hG59.trans hG65
 replace hD9a:=hD9a.mono hGz
 replace hD9b:=hD9b.mono hGz
 replace hD9c:=hD9c.mono hGz
 replace hD10a:=hD10a.mono hGz
 replace hD10b:=hD10b.mono hGz
 replace hD10c:=hD10c.mono hGz
 replace hx:=hx.mono hGz
 replace hT:=hT.mono hG65
 refine Zy hs (Yc rfl (fun h69=>?_) fun h69=>?_)
 ·
  refine Wp 7 [0] hs rfl<|Zg hs rfl (Hn rfl rfl rfl (Rn h69)<|Wp 3 [1,6] hs rfl<|As<|Zz results7 rfl ?_)
  exact hs.q rfl
 replace hok17:Rp R17=0:=by omega
 refine Wp 7 [0,0,3] hs rfl<|O_s (Sp (and_t ⟨_,_,_,rfl,hD17a,hD17b,hD17c⟩ ⟨_,_,_,rfl,hD9a,hD9b,hD9c⟩ (Bf hlm17 hok17).1 hkd (Bf hlm17 hok17).2.1 oM hT) hs rfl fun v19 G' _ hR hG78 hs=>?_)
 obtain ⟨R19,hde19,hok19,hlm19⟩:=hR
 have hv19:=hde19.vals
 obtain ⟨D19a,d19a,D19b,d19b,D19c,d19c,rfl,hD19a,hD19b,hD19c⟩:=hv19
 clear hde19
 refine Wp 3 [] hs rfl<|O_s (Sa hs zeroValue37 rfl fun b19 _ hs=>O_n (Sg hs rfl (rfl) fun _ hs=>Wp 6 [5,7,10,14,19,20] hs rfl ?_))
 replace hT:=hT.mono hG78
 replace hD10a:=hD10a.mono hG78
 replace hD10b:=hD10b.mono hG78
 replace hD10c:=hD10c.mono hG78
 replace hx:=hx.mono hG78
 refine Zy hs (Yc rfl (fun h82=>?_) fun h82=>?_)
 ·
  refine Wp 7 [0] hs rfl<|Zg hs rfl (Hn rfl rfl rfl (Rn h82)<|Wp 3 [0] hs rfl<|As<|Zz results7 rfl ?_)
  exact hs.q rfl
 replace hok19:Rp R19=0:=by omega
 refine Wp 6 [0,0] hs rfl<|O_s (Sp (Tz ⟨_,_,_,rfl,hD19a,hD19b,hD19c⟩ (Bf hlm19 hok19).1 (Bf hlm19 hok19).2.1 hT) hs rfl fun v20 G' _ hR hG90 hs=>?_)
 obtain ⟨A90,c90,wr,okr,rfl,hb90,hi90,hl90⟩:=hR
 refine Wp 13 [0,3] hs rfl ?_
 replace hT:=hT.mono hG90
 replace hD10a:=hD10a.mono hG90
 replace hD10b:=hD10b.mono hG90
 replace hD10c:=hD10c.mono hG90
 replace hx:=hx.mono hG90
 refine Dh 94 rfl rfl (Sp (Rh ⟨_,_,_,rfl,hD10a,hD10b,hD10c⟩ him.1 him.2.1 hx oM hT) hs rfl fun v21 G' _ hR hG98 hs=>?_)
 obtain rfl:=hR
 refine Zg hs rfl (Mt underlying4 rfl rfl (Vr (Bf hlm15 hok15).2.2.2 (Bf hlm17 hok17).2.2.2 (Bf hlm19 hok19).2.2.2 him.2.2 hi90)<|Wp 3 [0] hs rfl<|As<|Zz results7 rfl ?_)
 exact hs.q rfl
end Go.Proofs.YtmohebpaonkaeaaGreatDoor
