/- The walk of the law TransducerApart: the call returns true, whatever its arguments read, and changes nothing. -/
import Derived.Test.YtmohebpaonkaeaaGreatDoorMF
set_option maxHeartbeats 4000000
set_option maxRecDepth 10000
set_option linter.unusedVariables false
set_option linter.unusedSimpArgs false
set_option linter.unusedSectionVars false
namespace Go.Proofs.YtmohebpaonkaeaaGreatDoor
open Go Go.Ex Go.RowKit Go.Proofs.Tryz
theorem lapt_ok {G:Ah} {zt ft:UInt8} {tot out ent:List UInt8} {vat vbt vct:Value} (htot:Bd G vat tot) (hout:Bd G vbt out) (hent:Bd G vct ent) (hlat:tot.length≤1000000000) (hlbt:out.length≤1000000000) (hlct:ent.length≤1000000000) {zu fu:UInt8} {tou ouu enu:List UInt8} {vau vbu vcu:Value} (htou:Bd G vau tou) (houu:Bd G vbu ouu) (henu:Bd G vcu enu) (hlau:tou.length≤1000000000) (hlbu:ouu.length≤1000000000) (hlcu:enu.length≤1000000000) {wd:List UInt8} {vw:Value} (hw:Bd G vw wd) (hwl:wd.length≤1000000000) (hT:Tab G) :
  Ba prog 10 [.agg #[.int .u8 (zt.toNat:Int),vat,vbt,.int .u8 (ft.toNat:Int),vct],.agg #[.int .u8 (zu.toNat:Int),vau,vbu,.int .u8 (fu.toNat:Int),vcu],vw] G [] fun r _ H'=>H'=[]∧r=Vt:=by
 obtain ⟨Aat,cat,rfl,_⟩:=id htot
 obtain ⟨Abt,cbt,rfl,_⟩:=id hout
 obtain ⟨Act,cct,rfl,_⟩:=id hent
 obtain ⟨t,hqt⟩:∃ q,q=Mn ⟨zt.toNat,tot,out,ft.toNat,ent⟩:=⟨_,rfl⟩
 obtain ⟨htokt,htmt⟩:Cn7.TrOk t∧t.moves.length≤3:=by rw [hqt];exact Cn7.madeT_ok _
 obtain ⟨Aau,cau,rfl,_⟩:=id htou
 obtain ⟨Abu,cbu,rfl,_⟩:=id houu
 obtain ⟨Acu,ccu,rfl,_⟩:=id henu
 obtain ⟨u,hqu⟩:∃ q,q=Mn ⟨zu.toNat,tou,ouu,fu.toNat,enu⟩:=⟨_,rfl⟩
 obtain ⟨htoku,htmu⟩:Cn7.TrOk u∧u.moves.length≤3:=by rw [hqu];exact Cn7.madeT_ok _
 obtain ⟨Aw,cw,rfl,_⟩:=id hw
 refine Ba.of_T [(0,_),(1,_),(2,_)] func10 rfl ntmps10 sM rfl fun w0 hs=>?_
 have htot0:=htot
 have hout0:=hout
 have hent0:=hent
 have htou0:=htou
 have houu0:=houu
 have henu0:=henu
 have hw0:=hw
 have hT0:=hT
 refine Wt 2 [] hs rfl<|O_s (Sb hs rfl fun b3 _ hs=>O_s (Sb hs rfl fun b4 _ hs=>Wp 4 [0] hs rfl<|O_s (Sp (Qc hT) hs rfl fun v1 G' _ hR hG27 hs=>?_)))
 obtain rfl:=hR
 refine Wp 5 [0,1] hs rfl ?_
 replace htot:=htot.mono hG27
 replace hout:=hout.mono hG27
 replace hent:=hent.mono hG27
 refine O_s (Sp (Ie htot hout hent hlat hlbt hlct) hs rfl fun v2 G' _ hv8 hG29 hs=>?_)
 rw [← hqt] at hv8
 obtain ⟨X8a,x8a,X8b,x8b,X8c,x8c,X8d,x8d,rfl,hX8a,hX8b,hX8c,hX8d⟩:=Fy hv8
 refine O_s (Sa hs zeroValue33 rfl fun b8 _ hs=>O_n (Sg hs rfl (rfl) fun _ hs=>Wp 4 [0,1] hs rfl ?_))
 have hGz:=hG27.trans hG29
 replace htou:=htou.mono hGz
 replace houu:=houu.mono hGz
 replace henu:=henu.mono hGz
 refine O_s (Sp (Ie htou houu henu hlau hlbu hlcu) hs rfl fun v3 G' _ hv9 hG31 hs=>?_)
 rw [← hqu] at hv9
 obtain ⟨X9a,x9a,X9b,x9b,X9c,x9c,X9d,x9d,rfl,hX9a,hX9b,hX9c,hX9d⟩:=Fy hv9
 refine O_s (Sa hs zeroValue33 rfl fun b9 _ hs=>O_n (Sg hs rfl (rfl) fun _ hs=>Wp 3 [0] hs rfl<|O_s (Se hs zeroValue5 rfl fun v4 _ hs shv4=>O_s (Jr hs shv4 rfl underlying22 underlying5 noM fun _ _ hG33 hl33 hs=>?_))))
 have hsN:=hs
 obtain ⟨A33,c33,rfl,_⟩:=id hl33
 have hs:=hsN
 clear hsN
 refine Zy hs (Ce zeroValue49 rfl PL49 rfl (cs:=[_,_]) rfl<|O_s (Sa hs zeroValue49 rfl fun b10 _ hs=>O_n (Sg hs rfl (rfl) fun _ hs=>Wp 4 [0] hs rfl ?_)))
 replace hw:=hw.mono (hG27.trans (hG29.trans (hG31.trans hG33)))
 refine O_s (Sp (Ts (n:=3) hw hwl dC) hs rfl fun v5 G' _ hx hG36 hs=>?_)
 obtain ⟨x,hxe⟩:∃ q,q=Lb wd 3:=⟨_,rfl⟩
 rw [← hxe] at hx
 have hxl:x.length≤3:=by rw [hxe,Nr];omega
 obtain ⟨Ax,cx,rfl,_⟩:=id hx
 refine Wp 7 [0,2,1,0] hs rfl ?_
 replace hT:=hT.mono (hG27.trans (hG29.trans (hG31.trans (hG33.trans hG36))))
 have hGz:=hG31.trans (hG33.trans hG36)
 replace hX8a:=hX8a.mono hGz
 replace hX8b:=hX8b.mono hGz
 replace hX8c:=hX8c.mono hGz
 replace hX8d:=hX8d.mono hGz
 have hGz:=hG33.trans hG36
 replace hX9a:=hX9a.mono hGz
 replace hX9b:=hX9b.mono hGz
 replace hX9c:=hX9c.mono hGz
 replace hX9d:=hX9d.mono hGz
 replace hl33:=hl33.mono hG36
 refine O_s (Sp (tC ⟨_,_,_,_,rfl,hX8a,hX8b,hX8c,hX8d⟩ ⟨_,_,_,_,rfl,hX9a,hX9b,hX9c,hX9d⟩ htokt htoku (show Bd _ _ [97,98,99,100] from hl33) hT) hs rfl fun v6 G' _ hR hG41 hs=>?_)
 obtain ⟨A41,c41,wa41,ok41,rfl,hok41,hwa41,hb41⟩:=hR
 refine Wp 13 [8,7,8,9,10,11,12,13,14,2,2,0] hs rfl ?_
 replace hT:=hT.mono hG41
 replace hX8a:=hX8a.mono hG41
 replace hX8b:=hX8b.mono hG41
 replace hX8c:=hX8c.mono hG41
 replace hX8d:=hX8d.mono hG41
 replace hl33:=hl33.mono hG41
 refine O_s (Sp (tC ⟨_,_,_,_,rfl,hX8a,hX8b,hX8c,hX8d⟩ ⟨_,_,_,_,rfl,hX8a,hX8b,hX8c,hX8d⟩ htokt htokt (show Bd _ _ [97,98,99,100] from hl33) hT) hs rfl fun v7 G' _ hR hG49 hs=>?_)
 obtain ⟨A49,c49,wa49,ok49,rfl,hok49,_,hb49⟩:=hR
 rw [Cn7.apart_self] at hok49
 subst hok49
 refine Wp 12 [0,2] hs rfl ?_
 replace hx:=hx.mono (hG41.trans hG49)
 replace hT:=hT.mono hG49
 replace hX8a:=hX8a.mono hG49
 replace hX8b:=hX8b.mono hG49
 replace hX8c:=hX8c.mono hG49
 replace hX8d:=hX8d.mono hG49
 refine O_s (Sp (Lx ⟨_,_,_,_,rfl,hX8a,hX8b,hX8c,hX8d⟩ htokt hx hT oM) hs rfl fun v8 G' _ hR hG56 hs=>?_)
 obtain ⟨A56,c56,o56,rfl,ho56,hb56⟩:=hR
 refine Wp 10 [11,7,8,9,11,12,13,14,16,17,18,19,1] hs rfl ?_
 have hGz:=hG41.trans (hG49.trans hG56)
 replace hX9a:=hX9a.mono hGz
 replace hX9b:=hX9b.mono hGz
 replace hX9c:=hX9c.mono hGz
 replace hX9d:=hX9d.mono hGz
 replace hT:=hT.mono hG56
 replace hx:=hx.mono hG56
 refine O_s (Sp (Lx ⟨_,_,_,_,rfl,hX9a,hX9b,hX9c,hX9d⟩ htoku hx hT oM) hs rfl fun v9 G' _ hR hG62 hs=>?_)
 obtain ⟨A62,c62,o62,rfl,ho62,hb62⟩:=hR
 refine Wp 6 [0] hs rfl ?_
 obtain ⟨GpJ10,hGp⟩:=hs.name
 subst hGp
 replace hX8a:=hX8a.mono (hG56.trans hG62)
 have hX8a_J10:=hX8a
 replace hX8b:=hX8b.mono (hG56.trans hG62)
 have hX8b_J10:=hX8b
 replace hX8c:=hX8c.mono (hG56.trans hG62)
 have hX8c_J10:=hX8c
 replace hX8d:=hX8d.mono (hG56.trans hG62)
 have hX8d_J10:=hX8d
 replace hX9a:=hX9a.mono hG62
 have hX9a_J10:=hX9a
 replace hX9b:=hX9b.mono hG62
 have hX9b_J10:=hX9b
 replace hX9c:=hX9c.mono hG62
 have hX9c_J10:=hX9c
 replace hX9d:=hX9d.mono hG62
 have hX9d_J10:=hX9d
 replace hx:=hx.mono hG62
 have hx_J10:=hx
 replace hb41:=hb41.mono (hG49.trans (hG56.trans hG62))
 have hb41_J10:=hb41
 replace hl33:=hl33.mono (hG49.trans (hG56.trans hG62))
 have hl33_J10:=hl33
 have hlgJ10:=Cu.refl GpJ10
 have hGz:=hG29.trans (hG31.trans (hG33.trans (hG36.trans (hG41.trans (hG49.trans (hG56.trans hG62))))))
 replace htot:=htot.mono hGz
 replace hout:=hout.mono hGz
 replace hent:=hent.mono hGz
 have hGz:=hG31.trans (hG33.trans (hG36.trans (hG41.trans (hG49.trans (hG56.trans hG62)))))
 replace htou:=htou.mono hGz
 replace houu:=houu.mono hGz
 replace henu:=henu.mono hGz
 replace hw:=hw.mono (hG36.trans (hG41.trans (hG49.trans (hG56.trans hG62))))
 replace hT:=hT.mono hG62
 replace hb56:=hb56.mono hG62
 refine Yy (fun E w=>∃ (dv:Bool) (G2:Ah),Cu GpJ10 G2∧dv=Ip t u x∧E=⟨[],[(7,Vt),(8,Vp b8),(9,Vp b9),(11,.slice Ax x.length cx),(12,.slice A41 wa41.length c41),(13,.bool ok41),(14,Vi 0),(16,Vf),(17,Vi 0),(22,.bool dv)]⟩∧St ⟨w0,G,Bj []⟩ G2 [.blk b10 49 [.slice A33 4 c33,Vi 3],.blk b9 33 [.slice X9a u.cls.length x9a,.slice X9b u.moves.length x9b,.slice X9c u.final.length x9c,.slice X9d u.ends.length x9d],.blk b8 33 [.slice X8a t.cls.length x8a,.slice X8b t.moves.length x8b,.slice X8c t.final.length x8c,.slice X8d t.ends.length x8d],.blk b4 24 [.int .u8 (zu.toNat:Int),.slice Aau tou.length cau,.slice Abu ouu.length cbu,.int .u8 (fu.toNat:Int),.slice Acu enu.length ccu],.blk b3 24 [.int .u8 (zt.toNat:Int),.slice Aat tot.length cat,.slice Abt out.length cbt,.int .u8 (ft.toNat:Int),.slice Act ent.length cct]] w) ?_ ?_
 ·
  refine Wt 3 [] hs rfl<|Zy hs (Kk underlying4 rfl rfl (fun h67=>?_) (fun h67=>?_))
  ·
   refine Wp 7 [] hs rfl ?_
   have hs:=hs.f4.f4.f4.f4.f4
   exact Cr (⟨[(7,_),(8,_),(9,_),(11,_),(12,_),(13,_),(14,_),(16,_),(17,_),(22,_)],⟨rfl,rfl,rfl,rfl,rfl,rfl,rfl,rfl,rfl,rfl,trivial⟩,⟨_,_,hlgJ10,diff_ne7 h67,rfl,hs⟩⟩)
  refine Wp 3 [] hs rfl<|Dh 68 rfl rfl (Sp (Mq hb56 hb62 (by have:=Fh htokt x;rw [← ho56] at this;omega) (by have:=Fh htoku x;rw [← ho62] at this;omega)) hs rfl fun v10 G' _ hR hG71 hs=>?_)
  obtain rfl:=hR
  refine Wp 3 [] hs rfl ?_
  have hs:=hs.f4.f4.f4.f4.f4
  replace hlgJ10:=hlgJ10.mono hG71
  exact Cr (⟨[(7,_),(8,_),(9,_),(11,_),(12,_),(13,_),(14,_),(16,_),(17,_),(22,_)],⟨rfl,rfl,rfl,rfl,rfl,rfl,rfl,rfl,rfl,rfl,trivial⟩,⟨_,_,hlgJ10,(by rw [ho56,ho62];exact pA h67),rfl,hs⟩⟩)
 clear hs
 intro E w hI
 obtain ⟨dv,G2,hlgJ10,hdv,rfl,hs⟩:=hI
 have htot:=htot0.mono hs.le
 have hout:=hout0.mono hs.le
 have hent:=hent0.mono hs.le
 have htou:=htou0.mono hs.le
 have houu:=houu0.mono hs.le
 have henu:=henu0.mono hs.le
 have hw:=hw0.mono hs.le
 have hT:=hT0.mono hs.le
 have hX8a:=hX8a_J10.mono hlgJ10
 have hX8b:=hX8b_J10.mono hlgJ10
 have hX8c:=hX8c_J10.mono hlgJ10
 have hX8d:=hX8d_J10.mono hlgJ10
 have hX9a:=hX9a_J10.mono hlgJ10
 have hX9b:=hX9b_J10.mono hlgJ10
 have hX9c:=hX9c_J10.mono hlgJ10
 have hX9d:=hX9d_J10.mono hlgJ10
 have hx:=hx_J10.mono hlgJ10
 have hb41:=hb41_J10.mono hlgJ10
 have hl33:=hl33_J10.mono hlgJ10
 refine Wt 15 [] hs rfl ?_
 cases hb85:dv
 ·
  refine Wp 11 [8,7,8,9,11,12,13,22,89] hs rfl ?_
  cases hb90:ok41
  ·
   refine Wp 8 [0,0] hs rfl<|As<|Zz results10 rfl ?_
   exact hs.q rfl
  refine Wp 4 [0] hs rfl ?_
  have hsm:=Cn7.apart_some mB (tD hok41 hwa41 (by first|exact hb86|exact hb90))
  have hwl3:=hsm.2.1
  refine Wu 4 [2] hs rfl<|O_s (Sp (Lx ⟨_,_,_,_,rfl,hX8a,hX8b,hX8c,hX8d⟩ htokt hb41 hT oM) hs rfl fun v11 G' _ hR hG96 hs=>?_)
  obtain ⟨A96,c96,o96,rfl,ho96,hb96⟩:=hR
  refine Wp 10 [0,1] hs rfl ?_
  replace hT:=hT.mono hG96
  replace hX9a:=hX9a.mono hG96
  replace hX9b:=hX9b.mono hG96
  replace hX9c:=hX9c.mono hG96
  replace hX9d:=hX9d.mono hG96
  replace hb41:=hb41.mono hG96
  refine O_s (Sp (Lx ⟨_,_,_,_,rfl,hX9a,hX9b,hX9c,hX9d⟩ htoku hb41 hT oM) hs rfl fun v12 G' _ hR hG102 hs=>?_)
  obtain ⟨A102,c102,o102,rfl,ho102,hb102⟩:=hR
  refine Wp 12 [8,7,11,12,22,23,24,25,26] hs rfl<|Zg hs rfl (Hn rfl rfl rfl oM<|Wp 4 [] hs rfl ?_)
  replace hb96:=hb96.mono hG102
  refine Zg hs rfl (Kk underlying4 rfl rfl (fun h114=>?_) (fun h114=>?_))
  ·
   refine Wp 18 [1,6] hs rfl<|As<|Zz results10 rfl ?_
   exact hs.q rfl
  refine Wp 3 [] hs rfl<|Dh 115 rfl rfl (Sp (Mq hb96 hb102 (by have:=Fh htokt wa41;rw [← ho96] at this;omega) (by have:=Fh htoku wa41;rw [← ho102] at this;omega)) hs rfl fun v13 G' _ hR hG118 hs=>?_)
  obtain rfl:=hR
  rw [show decide (o96=o102)=false from by have h9:=pA h114;rw [← ho96,← ho102,hsm.1] at h9;simpa using h9]
  refine Wp 14 [1,6] hs rfl<|As<|Zz results10 rfl ?_
  exact hs.q rfl
 refine Wp 1 [] hs rfl ?_
 cases hb86:ok41
 ·
  refine Wp 9 [8,7,8,9,11,12,13,22,89,0] hs rfl<|As<|Zz results10 rfl ?_
  exfalso
  have hfd:=mC (t:=t) (u:=u) (w:=wd) (n:=3) (by rw [← hxe,← hdv];exact hb85) (by rw [← hxe];exact hxl) hok41
  rw [hb86] at hfd
  cases hfd
 refine Wp 14 [8,7,8,9,11,12,13,22,89,0] hs rfl ?_
 have hsm:=Cn7.apart_some mB (tD hok41 hwa41 (by first|exact hb86|exact hb90))
 have hwl3:=hsm.2.1
 refine Wu 4 [2] hs rfl<|O_s (Sp (Lx ⟨_,_,_,_,rfl,hX8a,hX8b,hX8c,hX8d⟩ htokt hb41 hT oM) hs rfl fun v14 G' _ hR hG96 hs=>?_)
 obtain ⟨A96,c96,o96,rfl,ho96,hb96⟩:=hR
 refine Wp 10 [0,1] hs rfl ?_
 replace hT:=hT.mono hG96
 replace hX9a:=hX9a.mono hG96
 replace hX9b:=hX9b.mono hG96
 replace hX9c:=hX9c.mono hG96
 replace hX9d:=hX9d.mono hG96
 replace hb41:=hb41.mono hG96
 refine O_s (Sp (Lx ⟨_,_,_,_,rfl,hX9a,hX9b,hX9c,hX9d⟩ htoku hb41 hT oM) hs rfl fun v15 G' _ hR hG102 hs=>?_)
 obtain ⟨A102,c102,o102,rfl,ho102,hb102⟩:=hR
 refine Wp 12 [8,7,11,12,22,23,24,25,26] hs rfl<|Zg hs rfl (Hn rfl rfl rfl oM<|Wp 4 [] hs rfl ?_)
 replace hx:=hx.mono (hG96.trans hG102)
 replace hb41:=hb41.mono hG102
 replace hb96:=hb96.mono hG102
 refine Zg hs rfl (Kk underlying4 rfl rfl (fun h114=>?_) (fun h114=>?_))
 ·
  refine Wp 12 [] hs rfl<|Dh 124 rfl rfl (Sp (lV hx hb41 oM) hs rfl fun v16 G' _ hR hG127 hs=>?_)
  obtain rfl:=hR
  rw [hsm.2.2 x hxl (by rw [hxe];exact oZ) (by rw [← hdv];exact hb85)]
  refine Wp 5 [1,6] hs rfl<|As<|Zz results10 rfl ?_
  exact hs.q rfl
 refine Wp 3 [] hs rfl<|Dh 115 rfl rfl (Sp (Mq hb96 hb102 (by have:=Fh htokt wa41;rw [← ho96] at this;omega) (by have:=Fh htoku wa41;rw [← ho102] at this;omega)) hs rfl fun v17 G' _ hR hG118 hs=>?_)
 obtain rfl:=hR
 rw [show decide (o96=o102)=false from by have h9:=pA h114;rw [← ho96,← ho102,hsm.1] at h9;simpa using h9]
 refine Wp 8 [] hs rfl ?_
 replace hx:=hx.mono hG118
 replace hb41:=hb41.mono hG118
 refine Dh 124 rfl rfl (Sp (lV hx hb41 oM) hs rfl fun v18 G' _ hR hG127 hs=>?_)
 obtain rfl:=hR
 rw [hsm.2.2 x hxl (by rw [hxe];exact oZ) (by rw [← hdv];exact hb85)]
 refine Wp 5 [1,6] hs rfl<|As<|Zz results10 rfl ?_
 exact hs.q rfl
end Go.Proofs.YtmohebpaonkaeaaGreatDoor
