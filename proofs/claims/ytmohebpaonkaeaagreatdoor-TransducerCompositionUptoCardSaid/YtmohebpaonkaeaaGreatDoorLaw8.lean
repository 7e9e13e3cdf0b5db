/- The walk of the law TransducerComposition: the call returns true, whatever its arguments read, and changes nothing. -/
import Derived.Test.YtmohebpaonkaeaaGreatDoorMF
set_option maxHeartbeats 4000000
set_option maxRecDepth 10000
set_option linter.unusedVariables false
set_option linter.unusedSimpArgs false
set_option linter.unusedSectionVars false
namespace Go.Proofs.YtmohebpaonkaeaaGreatDoor
open Go Go.Ex Go.RowKit Go.Proofs.Tryz
theorem lcmp_ok {G:Ah} {zt ft:UInt8} {tot out ent:List UInt8} {vat vbt vct:Value} (htot:Bd G vat tot) (hout:Bd G vbt out) (hent:Bd G vct ent) (hlat:tot.length≤1000000000) (hlbt:out.length≤1000000000) (hlct:ent.length≤1000000000) {zu fu:UInt8} {tou ouu enu:List UInt8} {vau vbu vcu:Value} (htou:Bd G vau tou) (houu:Bd G vbu ouu) (henu:Bd G vcu enu) (hlau:tou.length≤1000000000) (hlbu:ouu.length≤1000000000) (hlcu:enu.length≤1000000000) {wd:List UInt8} {vw:Value} (hw:Bd G vw wd) (hwl:wd.length≤1000000000) (hT:Tab G) :
  Ba prog 8 [.agg #[.int .u8 (zt.toNat:Int),vat,vbt,.int .u8 (ft.toNat:Int),vct],.agg #[.int .u8 (zu.toNat:Int),vau,vbu,.int .u8 (fu.toNat:Int),vcu],vw] G [] fun r _ H'=>H'=[]∧r=Vt:=by
 obtain ⟨Aat,cat,rfl,_⟩:=id htot
 obtain ⟨Abt,cbt,rfl,_⟩:=id hout
 obtain ⟨Act,cct,rfl,_⟩:=id hent
 obtain ⟨t,hqt⟩:∃ q,q=Mn ⟨zt.toNat,tot,out,ft.toNat,ent⟩:=⟨_,rfl⟩
 obtain ⟨htokt,htmt⟩:Cn7.TrOk t∧t.moves.length≤3:=by rw [hqt];exact Cn7.madeT_ok _
 obtain ⟨Aau,cau,rfl,_⟩:=id htou
 obtain ⟨Abu,cbu,rfl,_⟩:=id houu
 obtain ⟨Acu,ccu,rfl,_⟩:=id henu
 obtain ⟨u,hqu⟩:∃ q,q=Mn ⟨zu.toNat,tou,ouu,fu.toNat,enu⟩:=⟨_,rfl⟩
 obtain ⟨htoku,htmu⟩:Cn7.TrOk u∧u.moves.length≤3:=by rw [hqu];exact Cn7.madeT_ok _
 obtain ⟨Aw,cw,rfl,_⟩:=id hw
 refine Ba.of_T [(0,_),(1,_),(2,_)] func8 rfl ntmps8 sM rfl fun w0 hs=>?_
 have htot0:=htot
 have hout0:=hout
 have hent0:=hent
 have htou0:=htou
 have houu0:=houu
 have henu0:=henu
 have hw0:=hw
 have hT0:=hT
 refine Wt 2 [] hs rfl<|O_s (Sb hs rfl fun b3 _ hs=>O_s (Sb hs rfl fun b4 _ hs=>Wp 4 [0] hs rfl<|O_s (Sp (Qc hT) hs rfl fun v1 G' _ hR hG29 hs=>?_)))
 obtain rfl:=hR
 refine Wp 5 [0,1] hs rfl ?_
 replace htot:=htot.mono hG29
 replace hout:=hout.mono hG29
 replace hent:=hent.mono hG29
 refine O_s (Sp (Ie htot hout hent hlat hlbt hlct) hs rfl fun v2 G' _ hv8 hG31 hs=>?_)
 rw [← hqt] at hv8
 obtain ⟨X8a,x8a,X8b,x8b,X8c,x8c,X8d,x8d,rfl,hX8a,hX8b,hX8c,hX8d⟩:=Fy hv8
 refine O_s (Sa hs zeroValue33 rfl fun b8 _ hs=>O_n (Sg hs rfl (rfl) fun _ hs=>Wp 4 [0,1] hs rfl ?_))
 have hGz:=hG29.trans hG31
 replace htou:=htou.mono hGz
 replace houu:=houu.mono hGz
 replace henu:=henu.mono hGz
 refine O_s (Sp (Ie htou houu henu hlau hlbu hlcu) hs rfl fun v3 G' _ hv9 hG33 hs=>?_)
 rw [← hqu] at hv9
 obtain ⟨X9a,x9a,X9b,x9b,X9c,x9c,X9d,x9d,rfl,hX9a,hX9b,hX9c,hX9d⟩:=Fy hv9
 refine O_s (Sa hs zeroValue33 rfl fun b9 _ hs=>O_n (Sg hs rfl (rfl) fun _ hs=>Wp 4 [0] hs rfl ?_))
 replace hw:=hw.mono (hG29.trans (hG31.trans hG33))
 refine O_s (Sp (Ts (n:=6) hw hwl dC) hs rfl fun v4 G' _ hx hG35 hs=>?_)
 obtain ⟨x,hxe⟩:∃ q,q=Lb wd 6:=⟨_,rfl⟩
 rw [← hxe] at hx
 have hxl:x.length≤6:=by rw [hxe,Nr];omega
 obtain ⟨Ax,cx,rfl,_⟩:=id hx
 refine Wp 6 [0,1,0] hs rfl ?_
 replace hT:=hT.mono (hG29.trans (hG31.trans (hG33.trans hG35)))
 have hGz:=hG33.trans hG35
 replace hX8a:=hX8a.mono hGz
 replace hX8b:=hX8b.mono hGz
 replace hX8c:=hX8c.mono hGz
 replace hX8d:=hX8d.mono hGz
 replace hX9a:=hX9a.mono hG35
 replace hX9b:=hX9b.mono hG35
 replace hX9c:=hX9c.mono hG35
 replace hX9d:=hX9d.mono hG35
 refine O_s (Sp (mA ⟨_,_,_,_,rfl,hX8a,hX8b,hX8c,hX8d⟩ ⟨_,_,_,_,rfl,hX9a,hX9b,hX9c,hX9d⟩ htokt htoku hT) hs rfl fun v5 G' _ hR hG39 hs=>?_)
 obtain ⟨R11,hte11,hcm11⟩:=hR
 obtain ⟨X11a,x11a,X11b,x11b,X11c,x11c,X11d,x11d,rfl,hX11a,hX11b,hX11c,hX11d⟩:=hte11.vals
 clear hte11
 refine Wp 3 [] hs rfl<|O_s (Sa hs zeroValue33 rfl fun b11 _ hs=>O_n (Sg hs rfl (rfl) fun _ hs=>Wp 6 [6,7,8,9,10,11,12] hs rfl ?_))
 have hGz:=hG31.trans (hG33.trans (hG35.trans hG39))
 replace htot:=htot.mono hGz
 replace hout:=hout.mono hGz
 replace hent:=hent.mono hGz
 have hGz:=hG33.trans (hG35.trans hG39)
 replace htou:=htou.mono hGz
 replace houu:=houu.mono hGz
 replace henu:=henu.mono hGz
 replace hw:=hw.mono (hG35.trans hG39)
 replace hT:=hT.mono hG39
 replace hX8a:=hX8a.mono hG39
 replace hX8b:=hX8b.mono hG39
 replace hX8c:=hX8c.mono hG39
 replace hX8d:=hX8d.mono hG39
 replace hX9a:=hX9a.mono hG39
 replace hX9b:=hX9b.mono hG39
 replace hX9c:=hX9c.mono hG39
 replace hX9d:=hX9d.mono hG39
 replace hx:=hx.mono hG39
 refine Zy hs (Yc rfl (fun h43=>?_) fun h43=>?_)
 ·
  refine Wp 7 [0] hs rfl<|Zg hs rfl (Hn rfl rfl rfl (okT_no h43)<|Wp 3 [0] hs rfl<|As<|Zz results8 rfl ?_)
  exact hs.q rfl
 have hC:=hcm11 oM
 refine Wp 7 [0,2] hs rfl<|O_s (Sp (Lx ⟨_,_,_,_,rfl,hX8a,hX8b,hX8c,hX8d⟩ htokt hx hT oM) hs rfl fun v6 G' _ hR hG52 hs=>?_)
 obtain ⟨A52,c52,o52,rfl,ho52,hb52⟩:=hR
 refine Wp 6 [0] hs rfl ?_
 have hol52:o52.length≤56:=by rw [ho52];have:=Fh htokt x;omega
 refine Wu 4 [1] hs rfl ?_
 replace hT:=hT.mono hG52
 replace hX9a:=hX9a.mono hG52
 replace hX9b:=hX9b.mono hG52
 replace hX9c:=hX9c.mono hG52
 replace hX9d:=hX9d.mono hG52
 refine O_s (Sp (Lx ⟨_,_,_,_,rfl,hX9a,hX9b,hX9c,hX9d⟩ htoku hb52 hT oM) hs rfl fun v7 G' _ hR hG58 hs=>?_)
 obtain ⟨A58,c58,o58,rfl,ho58,hb58⟩:=hR
 refine Wp 10 [0,0] hs rfl ?_
 have hGz:=hG52.trans hG58
 replace hx:=hx.mono hGz
 replace hX11a:=hX11a.mono hGz
 replace hX11b:=hX11b.mono hGz
 replace hX11c:=hX11c.mono hGz
 replace hX11d:=hX11d.mono hGz
 replace hT:=hT.mono hG58
 refine O_s (Sp (Lx ⟨_,_,_,_,rfl,hX11a,hX11b,hX11c,hX11d⟩ hC.1 hx hT oM) hs rfl fun v8 G' _ hR hG64 hs=>?_)
 obtain ⟨A64,c64,o64,rfl,ho64,hb64⟩:=hR
 refine Wp 6 [10,7,8,9,10,11,14,15,16,17,18] hs rfl ?_
 obtain ⟨GpJ11,hGp⟩:=hs.name
 subst hGp
 replace hX8a:=hX8a.mono (hG52.trans (hG58.trans hG64))
 have hX8a_J11:=hX8a
 replace hX8b:=hX8b.mono (hG52.trans (hG58.trans hG64))
 have hX8b_J11:=hX8b
 replace hX8c:=hX8c.mono (hG52.trans (hG58.trans hG64))
 have hX8c_J11:=hX8c
 replace hX8d:=hX8d.mono (hG52.trans (hG58.trans hG64))
 have hX8d_J11:=hX8d
 replace hX9a:=hX9a.mono (hG58.trans hG64)
 have hX9a_J11:=hX9a
 replace hX9b:=hX9b.mono (hG58.trans hG64)
 have hX9b_J11:=hX9b
 replace hX9c:=hX9c.mono (hG58.trans hG64)
 have hX9c_J11:=hX9c
 replace hX9d:=hX9d.mono (hG58.trans hG64)
 have hX9d_J11:=hX9d
 replace hX11a:=hX11a.mono hG64
 have hX11a_J11:=hX11a
 replace hX11b:=hX11b.mono hG64
 have hX11b_J11:=hX11b
 replace hX11c:=hX11c.mono hG64
 have hX11c_J11:=hX11c
 replace hX11d:=hX11d.mono hG64
 have hX11d_J11:=hX11d
 replace hx:=hx.mono hG64
 have hx_J11:=hx
 have hlgJ11:=Cu.refl GpJ11
 have hGz:=hG52.trans (hG58.trans hG64)
 replace htot:=htot.mono hGz
 replace hout:=hout.mono hGz
 replace hent:=hent.mono hGz
 replace htou:=htou.mono hGz
 replace houu:=houu.mono hGz
 replace henu:=henu.mono hGz
 replace hw:=hw.mono hGz
 replace hT:=hT.mono hG64
 replace hb58:=hb58.mono hG64
 refine Wu 1 [] hs rfl<|Yy (fun E w=>∃ (G2:Ah),Cu GpJ11 G2∧E=⟨[],[(7,Vt),(8,Vp b8),(9,Vp b9),(10,.slice Ax x.length cx),(11,Vp b11),(86,Vf)]⟩∧St ⟨w0,G,Bj []⟩ G2 [.blk b11 33 [.slice X11a (rT R11).cls.length x11a,.slice X11b (rT R11).moves.length x11b,.slice X11c (rT R11).final.length x11c,.slice X11d (rT R11).ends.length x11d],.blk b9 33 [.slice X9a u.cls.length x9a,.slice X9b u.moves.length x9b,.slice X9c u.final.length x9c,.slice X9d u.ends.length x9d],.blk b8 33 [.slice X8a t.cls.length x8a,.slice X8b t.moves.length x8b,.slice X8c t.final.length x8c,.slice X8d t.ends.length x8d],.blk b4 24 [.int .u8 (zu.toNat:Int),.slice Aau tou.length cau,.slice Abu ouu.length cbu,.int .u8 (fu.toNat:Int),.slice Acu enu.length ccu],.blk b3 24 [.int .u8 (zt.toNat:Int),.slice Aat tot.length cat,.slice Abt out.length cbt,.int .u8 (ft.toNat:Int),.slice Act ent.length cct]] w) ?_ ?_
 ·
  refine Wt 4 [] hs rfl ?_
  cases hb69:(Bo t 0 x).isSome
  ·
   refine Wp 2 [] hs rfl<|Zy hs (Qd underlying4 rfl rfl (by rw [hC.2 x,bind_f hb69];rfl)<|Wp 3 [] hs rfl ?_)
   cases hb75:(Bo (rT R11) 0 x).isSome
   ·
    refine Wp 8 [0] hs rfl<|Dh 82 rfl rfl (Sp (Ls ⟨_,_,_,_,rfl,hX11a,hX11b,hX11c,hX11d⟩) hs rfl fun v9 G' _ hR hG84 hs=>?_)
    obtain rfl:=hR
    rw [Cn7.validT_of hC.1]
    refine Wp 2 [] hs rfl ?_
    have hs:=hs.f4.f4.f4.f4.f4
    replace hlgJ11:=hlgJ11.mono hG84
    exact Cr (⟨[(7,_),(8,_),(9,_),(10,_),(11,_),(86,_)],⟨rfl,rfl,rfl,rfl,rfl,rfl,trivial⟩,⟨_,hlgJ11,rfl,hs⟩⟩)
   refine Wp 2 [] hs rfl<|Dh 75 rfl rfl (Sp (Mq hb64 hb58 (by have:=Fh hC.1 x;rw [← ho64] at this;omega) (by have:=Fh htoku o52;rw [← ho58] at this;omega)) hs rfl fun v10 G' _ hR hG78 hs=>?_)
   obtain rfl:=hR
   rw [show decide (o64=o58)=true from decide_eq_true (by exfalso;rw [hC.2 x,bind_f hb69] at hb75;cases hb75)]
   refine Wp 5 [0] hs rfl ?_
   replace hX11a:=hX11a.mono hG78
   replace hX11b:=hX11b.mono hG78
   replace hX11c:=hX11c.mono hG78
   replace hX11d:=hX11d.mono hG78
   refine Dh 82 rfl rfl (Sp (Ls ⟨_,_,_,_,rfl,hX11a,hX11b,hX11c,hX11d⟩) hs rfl fun v11 G' _ hR hG84 hs=>?_)
   obtain rfl:=hR
   rw [Cn7.validT_of hC.1]
   refine Wp 2 [] hs rfl ?_
   have hs:=hs.f4.f4.f4.f4.f4
   replace hlgJ11:=hlgJ11.mono (hG78.trans hG84)
   exact Cr (⟨[(7,_),(8,_),(9,_),(10,_),(11,_),(86,_)],⟨rfl,rfl,rfl,rfl,rfl,rfl,trivial⟩,⟨_,hlgJ11,rfl,hs⟩⟩)
  refine Wp 2 [] hs rfl<|Zy hs (Qd underlying4 rfl rfl (by rw [hC.2 x,bind_t hb69,← ho52])<|Wp 3 [] hs rfl ?_)
  cases hb75:(Bo (rT R11) 0 x).isSome
  ·
   refine Wp 8 [0] hs rfl<|Dh 82 rfl rfl (Sp (Ls ⟨_,_,_,_,rfl,hX11a,hX11b,hX11c,hX11d⟩) hs rfl fun v12 G' _ hR hG84 hs=>?_)
   obtain rfl:=hR
   rw [Cn7.validT_of hC.1]
   refine Wp 2 [] hs rfl ?_
   have hs:=hs.f4.f4.f4.f4.f4
   replace hlgJ11:=hlgJ11.mono hG84
   exact Cr (⟨[(7,_),(8,_),(9,_),(10,_),(11,_),(86,_)],⟨rfl,rfl,rfl,rfl,rfl,rfl,trivial⟩,⟨_,hlgJ11,rfl,hs⟩⟩)
  refine Wp 2 [] hs rfl<|Dh 75 rfl rfl (Sp (Mq hb64 hb58 (by have:=Fh hC.1 x;rw [← ho64] at this;omega) (by have:=Fh htoku o52;rw [← ho58] at this;omega)) hs rfl fun v13 G' _ hR hG78 hs=>?_)
  obtain rfl:=hR
  rw [show decide (o64=o58)=true from decide_eq_true (by rw [ho64,hC.2 x,bind_t hb69,← ho52,ho58])]
  refine Wp 5 [0] hs rfl ?_
  replace hX11a:=hX11a.mono hG78
  replace hX11b:=hX11b.mono hG78
  replace hX11c:=hX11c.mono hG78
  replace hX11d:=hX11d.mono hG78
  refine Dh 82 rfl rfl (Sp (Ls ⟨_,_,_,_,rfl,hX11a,hX11b,hX11c,hX11d⟩) hs rfl fun v14 G' _ hR hG84 hs=>?_)
  obtain rfl:=hR
  rw [Cn7.validT_of hC.1]
  refine Wp 2 [] hs rfl ?_
  have hs:=hs.f4.f4.f4.f4.f4
  replace hlgJ11:=hlgJ11.mono (hG78.trans hG84)
  exact Cr (⟨[(7,_),(8,_),(9,_),(10,_),(11,_),(86,_)],⟨rfl,rfl,rfl,rfl,rfl,rfl,trivial⟩,⟨_,hlgJ11,rfl,hs⟩⟩)
 clear hs
 intro E w hI
 obtain ⟨G2,hlgJ11,rfl,hs⟩:=hI
 have htot:=htot0.mono hs.le
 have hout:=hout0.mono hs.le
 have hent:=hent0.mono hs.le
 have htou:=htou0.mono hs.le
 have houu:=houu0.mono hs.le
 have henu:=henu0.mono hs.le
 have hw:=hw0.mono hs.le
 have hT:=hT0.mono hs.le
 have hX8a:=hX8a_J11.mono hlgJ11
 have hX8b:=hX8b_J11.mono hlgJ11
 have hX8c:=hX8c_J11.mono hlgJ11
 have hX8d:=hX8d_J11.mono hlgJ11
 have hX9a:=hX9a_J11.mono hlgJ11
 have hX9b:=hX9b_J11.mono hlgJ11
 have hX9c:=hX9c_J11.mono hlgJ11
 have hX9d:=hX9d_J11.mono hlgJ11
 have hX11a:=hX11a_J11.mono hlgJ11
 have hX11b:=hX11b_J11.mono hlgJ11
 have hX11c:=hX11c_J11.mono hlgJ11
 have hX11d:=hX11d_J11.mono hlgJ11
 have hx:=hx_J11.mono hlgJ11
 refine Wt 2 [] hs rfl<|Wu 4 [0,2] hs rfl<|O_s (Sp (mA ⟨_,_,_,_,rfl,hX11a,hX11b,hX11c,hX11d⟩ ⟨_,_,_,_,rfl,hX8a,hX8b,hX8c,hX8d⟩ hC.1 htokt hT) hs rfl fun v15 G' _ hR hG90 hs=>?_)
 obtain ⟨R19,hte19,hcm19⟩:=hR
 obtain ⟨X19a,x19a,X19b,x19b,X19c,x19c,X19d,x19d,rfl,hX19a,hX19b,hX19c,hX19d⟩:=hte19.vals
 clear hte19
 refine Wp 3 [] hs rfl<|O_s (Sa hs zeroValue33 rfl fun b19 _ hs=>O_n (Sg hs rfl (rfl) fun _ hs=>Wp 6 [0,2,3] hs rfl ?_))
 replace hT:=hT.mono hG90
 replace hX8a:=hX8a.mono hG90
 replace hX8b:=hX8b.mono hG90
 replace hX8c:=hX8c.mono hG90
 replace hX8d:=hX8d.mono hG90
 replace hX9a:=hX9a.mono hG90
 replace hX9b:=hX9b.mono hG90
 replace hX9c:=hX9c.mono hG90
 replace hX9d:=hX9d.mono hG90
 refine O_s (Sp (mA ⟨_,_,_,_,rfl,hX9a,hX9b,hX9c,hX9d⟩ ⟨_,_,_,_,rfl,hX8a,hX8b,hX8c,hX8d⟩ htoku htokt hT) hs rfl fun v16 G' _ hR hG96 hs=>?_)
 obtain ⟨R21,hte21,hcm21⟩:=hR
 obtain ⟨X21a,x21a,X21b,x21b,X21c,x21c,X21d,x21d,rfl,hX21a,hX21b,hX21c,hX21d⟩:=hte21.vals
 clear hte21
 refine Wp 3 [] hs rfl<|O_s (Sa hs zeroValue33 rfl fun b21 _ hs=>O_n (Sg hs rfl (rfl) fun _ hs=>Wp 6 [7,7,8,10,19,20,21,22] hs rfl ?_))
 replace hx:=hx.mono (hG90.trans hG96)
 replace hT:=hT.mono hG96
 replace hX8a:=hX8a.mono hG96
 replace hX8b:=hX8b.mono hG96
 replace hX8c:=hX8c.mono hG96
 replace hX8d:=hX8d.mono hG96
 replace hX19a:=hX19a.mono hG96
 replace hX19b:=hX19b.mono hG96
 replace hX19c:=hX19c.mono hG96
 replace hX19d:=hX19d.mono hG96
 refine Zy hs (Yc rfl (fun h100=>?_) fun h100=>?_)
 ·
  refine Wp 11 [0,0] hs rfl<|As<|Zz results8 rfl ?_
  exact hs.q rfl
 have hL:=hcm19 oM
 refine Wp 2 [] hs rfl<|Zg hs rfl (Yc rfl (fun h103=>?_) fun h103=>?_)
 ·
  refine Wp 8 [0,0] hs rfl<|As<|Zz results8 rfl ?_
  exact hs.q rfl
 have hR:=hcm21 oM
 refine Wp 8 [0,4,0] hs rfl<|O_s (Sp (mA ⟨_,_,_,_,rfl,hX8a,hX8b,hX8c,hX8d⟩ ⟨_,_,_,_,rfl,hX21a,hX21b,hX21c,hX21d⟩ htokt hR.1 hT) hs rfl fun v17 G' _ hR hG109 hs=>?_)
 obtain ⟨R23,hte23,hcm23⟩:=hR
 obtain ⟨X23a,x23a,X23b,x23b,X23c,x23c,X23d,x23d,rfl,hX23a,hX23b,hX23c,hX23d⟩:=hte23.vals
 clear hte23
 refine Wp 3 [] hs rfl<|O_s (Sa hs zeroValue33 rfl fun b23 _ hs=>O_n (Sg hs rfl (rfl) fun _ hs=>Wp 6 [0] hs rfl ?_))
 replace hT:=hT.mono hG109
 replace hx:=hx.mono hG109
 replace hX19a:=hX19a.mono hG109
 replace hX19b:=hX19b.mono hG109
 replace hX19c:=hX19c.mono hG109
 replace hX19d:=hX19d.mono hG109
 refine Zy hs (Yc rfl (fun h113=>?_) fun h113=>?_)
 ·
  refine Wp 7 [0,1,6] hs rfl<|As<|Zz results8 rfl ?_
  exact hs.q rfl
 have hB:=hcm23 oM
 have hass:Bo (rT R19) 0 x=Bo (rT R23) 0 x:=by rw [hL.2,hB.2,hC.2,Option.bind_assoc];congr 1;funext o;exact (hR.2 o).symm
 refine Wp 7 [0,2] hs rfl<|O_s (Sp (Lx ⟨_,_,_,_,rfl,hX19a,hX19b,hX19c,hX19d⟩ hL.1 hx hT oM) hs rfl fun v18 G' _ hR hG118 hs=>?_)
 obtain ⟨A118,c118,o118,rfl,ho118,hb118⟩:=hR
 refine Wp 10 [5,7,10,23,25,26,0] hs rfl ?_
 replace hT:=hT.mono hG118
 replace hx:=hx.mono hG118
 replace hX23a:=hX23a.mono hG118
 replace hX23b:=hX23b.mono hG118
 replace hX23c:=hX23c.mono hG118
 replace hX23d:=hX23d.mono hG118
 refine O_s (Sp (Lx ⟨_,_,_,_,rfl,hX23a,hX23b,hX23c,hX23d⟩ hB.1 hx hT oM) hs rfl fun v19 G' _ hR hG124 hs=>?_)
 obtain ⟨A124,c124,o124,rfl,ho124,hb124⟩:=hR
 refine Wp 12 [0] hs rfl<|Zg hs rfl (Mt underlying4 rfl rfl (by rw [hass])<|Wp 4 [] hs rfl ?_)
 replace hb118:=hb118.mono hG124
 refine Dh 133 rfl rfl (Sp (Mq hb118 hb124 (by have:=Fh hL.1 x;rw [← ho118] at this;omega) (by have:=Fh hB.1 x;rw [← ho124] at this;omega)) hs rfl fun v20 G' _ hR hG136 hs=>?_)
 obtain rfl:=hR
 rw [show decide (o118=o124)=true from decide_eq_true (by rw [ho118,ho124,hass])]
 refine Wp 3 [1,6] hs rfl<|As<|Zz results8 rfl ?_
 exact hs.q rfl
end Go.Proofs.YtmohebpaonkaeaaGreatDoor
