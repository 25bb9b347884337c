/- Part of ranges_said. -/
import Derived.Test.YthffhbakgmemaaaGreatDoorF1
import Derived.Test.YthffhbakgmemaaaGreatDoorF2
import Derived.Test.YthffhbakgmemaaaGreatDoorF3
import Derived.Test.YthffhbakgmemaaaGreatDoorF4
import Derived.Test.YthffhbakgmemaaaGreatDoorH
import Derived.Test.YthffhbakgmemaaaGreatDoorRows
set_option maxRecDepth 100000
set_option maxHeartbeats 8000000
namespace Go.Proofs.YthffhbakgmemaaaGreatDoor
open Go Go.aH
def vq4:aX:=by
 have h:bb 164 {}=some ?v:=by conv=>lhs;cbv
 exact ?v
theorem cq4:a7 a1 164 vq4:=bf {}
def vq2:aX:=by
 have h:bb 201 {}=some ?v:=by conv=>lhs;cbv
 exact ?v
theorem cq2:a7 a1 201 vq2:=bf {}
def aaq:List (List (Nat×aX)):=[[(3,aEQ),(5,WT),(6,Tq),(7,YG),(8,U4),(9,aER),(10,aFq),(11,Tr),(13,Tt),(15,YK)],[(17,Ty),(19,WW),(20,U6),(21,TC),(22,TD),(23,TE),(24,WY),(25,YM),(26,YO),(27,U8),(28,aEm),(29,TF),(30,aEo),(31,U9)],[(32,W0),(34,W2),(35,Vc),(36,YP),(37,TG),(38,Vd),(39,Vf),(40,TI),(41,Vg),(42,Vi),(43,YR),(45,YS),(46,aEq),(47,YU)],[(48,Vk),(49,TK),(50,TM),(51,YW),(52,YY),(53,W4),(54,W6),(55,YZ),(56,Vm),(57,TP),(58,Vo),(59,aFs),(60,Vq),(61,Lt),(62,K9),(63,Y2)],[(64,Y4),(65,Y6),(66,W8),(67,Vs),(68,Y7),(69,Y9),(70,Vu),(71,Vv),(72,Za),(73,TS),(74,W9),(75,Zc),(76,Vx),(77,Vz),(78,Ze)],[(87,Xj),(88,VE),(89,TU),(90,Xl),(91,Zf),(92,VF),(93,VH),(94,TW)],[(96,T0),(98,T2),(99,T3),(100,Xn),(101,Xp),(102,VL),(103,aEs),(104,Xr),(105,Zh),(106,aDV),(109,Xu),(110,T6)],[(116,Xy),(117,T8),(118,VS),(119,CS),(120,T9),(121,XA),(122,XC),(123,T'),(124,Ua),(125,XE),(126,Zn),(127,VU)],[(128,Ub),(130,aFu),(132,Ud),(133,Uf),(134,XH),(135,VW),(136,XJ),(137,Zq),(138,XL),(139,XO),(140,XP),(141,Uh),(142,Zs),(143,Zu)],[(144,Zv),(145,Zx),(146,Zz),(147,VY),(148,XQ),(149,XR),(150,Uj),(151,ZB),(152,aFw),(153,V0),(154,ZC),(155,Uk),(156,ZE),(157,XS),(158,ZF),(159,V2)],[(161,aEu),(163,XW),(164,vq4),(165,V6),(166,ZH),(167,V8),(169,ZJ),(170,V'),(171,ZL),(172,aEw),(173,Wa),(174,Um),(175,XZ)],[(176,Uo),(178,ZN),(179,Us),(182,X1),(183,ZQ),(184,aET),(185,aEy),(186,X3),(187,ZS),(188,ZU),(189,Uv),(190,Wc),(191,ZW)],[(192,Wf),(193,ZY),(194,X5),(195,aEV),(196,Wh),(197,Ux),(198,Uz),(199,UB),(200,aEA),(201,vq2),(202,ZZ),(203,Wj),(204,Z0),(205,UD),(206,X6),(207,UF)],[(210,Wm),(211,Wo),(212,UG),(213,UH),(214,UJ),(215,Wq),(216,Wr),(217,Wt),(218,Wv),(219,aEX),(220,aEY),(223,aEZ)],[(224,Z2),(225,Z3),(226,X9),(227,Ya),(228,UL),(229,aE1),(230,aEC),(231,aFx),(232,aE3),(233,aDW),(234,Wx),(235,Wy),(236,WA),(237,Yc),(238,aFz),(239,aE5)],[(240,aE7),(241,aDY),(242,aD0),(244,aEE),(245,aD2),(246,aFA),(247,Z5),(248,Yd),(249,Z6),(250,Z7),(251,Yf)],[(257,aFB),(258,UN),(259,Yi),(260,aFC),(261,aEG),(264,Ym),(265,aE9),(266,aFE),(267,aDu),(269,Yo),(270,UP),(271,aD4)],[(280,Yq),(285,UU),(286,aEI),(287,aFa)],[(288,Yu),(290,aFG),(291,aFc),(292,Yw),(293,WN),(297,aag),(298,U0)],[(304,Yy),(308,aao),(310,YE),(311,aD5),(312,aFe),(313,aFI),(314,aEK),(315,aFK),(316,aD7),(317,aD9),(318,aFM)],[(321,aEa),(322,aEc),(333,aFg),(334,aEe),(335,aFi)],[(336,aFk),(337,aEg),(338,aFm),(344,aFO),(345,aEi),(346,aEk),(347,aDn),(348,aEM),(349,aFo),(350,aFR),(351,aEO)]]
theorem aml:FE a1 aaq:=⟨⟨aDF,⟨al8,⟨Gb,⟨YH,⟨U5,⟨aES,⟨aFr,⟨Ts,⟨Tv,⟨YL,trivial⟩⟩⟩⟩⟩⟩⟩⟩⟩⟩,⟨⟨Tz,⟨WX,⟨U7,⟨alS,⟨alT,⟨alU,⟨WZ,⟨YN,⟨CU,⟨Ge,⟨aEn,⟨Gc,⟨aEp,⟨U',trivial⟩⟩⟩⟩⟩⟩⟩⟩⟩⟩⟩⟩⟩⟩,⟨⟨W1,⟨Ll,⟨Le,⟨YQ,⟨TH,⟨Ve,⟨Lf,⟨TJ,⟨Vh,⟨Vj,⟨ame,⟨YT,⟨aEr,⟨YV,trivial⟩⟩⟩⟩⟩⟩⟩⟩⟩⟩⟩⟩⟩⟩,⟨⟨Vl,⟨TL,⟨TN,⟨YX,⟨Ls,⟨W5,⟨W7,⟨Y0,⟨Vn,⟨TQ,⟨Vp,⟨aFt,⟨Vr,⟨Y1,⟨TR,⟨Y3,trivial⟩⟩⟩⟩⟩⟩⟩⟩⟩⟩⟩⟩⟩⟩⟩⟩,⟨⟨Y5,⟨Lu,⟨Lm,⟨Vt,⟨Y8,⟨Y',⟨Lg,⟨Vw,⟨Zb,⟨La,⟨Xa,⟨Zd,⟨Vy,⟨VA,⟨Lv,trivial⟩⟩⟩⟩⟩⟩⟩⟩⟩⟩⟩⟩⟩⟩⟩,⟨⟨Xk,⟨Li,⟨TV,⟨Xm,⟨Zg,⟨VG,⟨VI,⟨vL,trivial⟩⟩⟩⟩⟩⟩⟩⟩,⟨⟨T1,⟨CQ,⟨CR,⟨Xo,⟨Xq,⟨VM,⟨aEt,⟨Xt,⟨Zi,⟨aGf,⟨Xv,⟨T7,trivial⟩⟩⟩⟩⟩⟩⟩⟩⟩⟩⟩⟩,⟨⟨Xz,⟨Lb,⟨VT,⟨Gd,⟨alW,⟨XB,⟨XD,⟨alX,⟨Lc,⟨Ln,⟨Lw,⟨Lk,trivial⟩⟩⟩⟩⟩⟩⟩⟩⟩⟩⟩⟩,⟨⟨Uc,⟨aFv,⟨Ue,⟨Ug,⟨XI,⟨VX,⟨XK,⟨Zr,⟨XM,⟨Lo,⟨Lp,⟨Ui,⟨Zt,⟨Lx,trivial⟩⟩⟩⟩⟩⟩⟩⟩⟩⟩⟩⟩⟩⟩,⟨⟨Zw,⟨Zy,⟨ZA,⟨VZ,⟨al',⟨ama,⟨alY,⟨amf,⟨aDI,⟨V1,⟨ZD,⟨Ul,⟨Ly,⟨q7,⟨ZG,⟨V3,trivial⟩⟩⟩⟩⟩⟩⟩⟩⟩⟩⟩⟩⟩⟩⟩⟩,⟨⟨aEv,⟨p3,⟨cq4,⟨V7,⟨ZI,⟨V9,⟨ZK,⟨al3,⟨ZM,⟨aEx,⟨Wb,⟨Un,⟨X0,trivial⟩⟩⟩⟩⟩⟩⟩⟩⟩⟩⟩⟩⟩,⟨⟨Up,⟨ZO,⟨alZ,⟨X2,⟨ZR,⟨aEU,⟨aEz,⟨X4,⟨ZT,⟨ZV,⟨Uw,⟨Wd,⟨ZX,trivial⟩⟩⟩⟩⟩⟩⟩⟩⟩⟩⟩⟩⟩,⟨⟨Wg,⟨CV,⟨Lr,⟨aEW,⟨Wi,⟨Uy,⟨UA,⟨UC,⟨aEB,⟨cq2,⟨amg,⟨al4,⟨Z1,⟨UE,⟨amb,⟨al0,trivial⟩⟩⟩⟩⟩⟩⟩⟩⟩⟩⟩⟩⟩⟩⟩⟩,⟨⟨Wn,⟨Wp,⟨al1,⟨UI,⟨UK,⟨CT,⟨Ws,⟨Wu,⟨Ww,⟨aDG,⟨aDH,⟨aE0,trivial⟩⟩⟩⟩⟩⟩⟩⟩⟩⟩⟩⟩,⟨⟨CW,⟨Z4,⟨X',⟨Yb,⟨UM,⟨aE2,⟨aED,⟨aFy,⟨aE4,⟨aDX,⟨al5,⟨Wz,⟨WB,⟨amc,⟨aGh,⟨aE6,trivial⟩⟩⟩⟩⟩⟩⟩⟩⟩⟩⟩⟩⟩⟩⟩⟩,⟨⟨aE8,⟨aDZ,⟨aD1,⟨aEF,⟨aD3,⟨aDv,⟨amh,⟨Ye,⟨ami,⟨amj,⟨amd,trivial⟩⟩⟩⟩⟩⟩⟩⟩⟩⟩⟩,⟨⟨aDw,⟨UO,⟨Yj,⟨aFD,⟨aEH,⟨Yn,⟨aE',⟨aFF,⟨aDA,⟨Yp,⟨Ld,⟨aGg,trivial⟩⟩⟩⟩⟩⟩⟩⟩⟩⟩⟩⟩,⟨⟨Yr,⟨UW,⟨aEJ,⟨aFb,trivial⟩⟩⟩⟩,⟨⟨Yv,⟨aFH,⟨aFd,⟨Yx,⟨WO,⟨aah,⟨U1,trivial⟩⟩⟩⟩⟩⟩⟩,⟨⟨Yz,⟨aap,⟨YF,⟨aD6,⟨aFf,⟨aFJ,⟨aEL,⟨aFL,⟨aD8,⟨aD',⟨aFN,trivial⟩⟩⟩⟩⟩⟩⟩⟩⟩⟩⟩,⟨⟨aEb,⟨aEd,⟨aFh,⟨aEf,⟨aFj,trivial⟩⟩⟩⟩⟩,⟨⟨aFl,⟨aEh,⟨aFn,⟨aFP,⟨aEj,⟨aEl,⟨aFQ,⟨aEN,⟨aFp,⟨aFS,⟨aEP,trivial⟩⟩⟩⟩⟩⟩⟩⟩⟩⟩⟩,trivial⟩⟩⟩⟩⟩⟩⟩⟩⟩⟩⟩⟩⟩⟩⟩⟩⟩⟩⟩⟩⟩⟩
def amt:List D:=[.str [33,61],.str [60,61],.str [62,61],.str [46,46],.str [40],.str [41],.str [44],.str [59],.str [58],.str [124],.str [43],.str [45],.str [42],.str [47],.str [37],.str [61],.str [60],.str [62]]
def LF:List D:=[.int .i64 0,.int .i64 0,.int .i64 1,.int .i64 1,.int .i64 2,.int .i64 2,.int .i64 1,.int .i64 2,.int .i64 1,.int .i64 1]
def LG:List D:=[.int .i64 0,.int .i64 59,.int .i64 0,.int .i64 23,.int .i64 1,.int .i64 31,.int .i64 1,.int .i64 12,.int .i64 0,.int .i64 6]
def CX:List D:=[.hT]
def aGi:List D:=[.hT]
def aGj:List D:=[.ln [.str [33,61],.str [37],.str [42],.str [43],.str [45],.str [47],.str [60],.str [60,61],.str [61],.str [62],.str [62,61],.str [97,110,100],.str [111,114]] [.int .i64 4,.int .i64 6,.int .i64 6,.int .i64 5,.int .i64 5,.int .i64 6,.int .i64 4,.int .i64 4,.int .i64 4,.int .i64 4,.int .i64 4,.int .i64 2,.int .i64 1]]
def amu:List D:=[.int .i64 0,.int .i64 31,.int .i64 28,.int .i64 31,.int .i64 30,.int .i64 31,.int .i64 30,.int .i64 31,.int .i64 31,.int .i64 30,.int .i64 31,.int .i64 30,.int .i64 31]
def amv:List D:=F6
def gl:Nat->List D:=λg=>match g with|0=>amt|1=>LF|2=>LG|3=>CX|4=>aGi|6=>aGj|7=>amu|8=>amv|_=>[]
abbrev aM:=bG a1 gl
def tab:Nat->Option aX:=Sv aaq
def ext:Nat->List ah->aU->Out:=KE 179 5 95 97 131 181 168
theorem amz:uf Tryz.prog gl 179 5 95 97 131 181 168 4 3 where
 oS:=⟨Tryz.f95,Tryz.func95,axV,axV⟩
 cs:=⟨Tryz.f97,Tryz.func97,axV,axV⟩
 Cw:=⟨Tryz.f131,Tryz.func131,axV,axV⟩
 ci:=⟨Tryz.f181,Tryz.func181,axV,axV⟩
 ca:=⟨Tryz.f168,Tryz.func168,axV,axV⟩
 w:=λ_ _ _ _ s _ h aI=>aky {Tryz.LA with} Tryz.LB s h aI
 s:=λ_ _ _ _ _ h=>akF Tryz.amm Tryz.amn h
 j:=⟨λa c sep w=>Any.strings_Join_none Tryz.LA Tryz.LB a c sep w,λlq o c xs sep w h1 sh av aW bL=>Any.strings_Join Tryz.LA Tryz.LB lq o c xs sep w h1 sh av aW bL⟩
 i:=⟨λi hi w=>Any.strconv_Itoa_small {Tryz.aat with} i hi w⟩
 a:=⟨λs h v hv w=>(Any.strconv_Atoi_ok Tryz.LD s h v hv w).mono (by
  rintro e w' ⟨rfl,h|⟨t,h⟩⟩
  .exact⟨rfl,by rw[h];exact RowKit.Below.refl _ _⟩
  .exact⟨rfl,by rw[h];exact Lib.bytesWorld_below _ _ _⟩)⟩
 FO:=⟨rfl,rfl,λs aI hv aL w h1 sh=>(Any.strconv_Atoi_range Tryz.LD s aI hv aL w h1 sh).mono (by
  rintro e w' ⟨N,rfl,_,_,au⟩;exact⟨_,_,rfl,au⟩),λs aI hv aL w h1 sh=>(Any.strconv_Atoi_syntax Tryz.LD s aI hv aL w h1 sh).mono (by
  rintro e w' ⟨N,rfl,_,_,au⟩;exact⟨_,_,rfl,au⟩)⟩
theorem amA:F7 Tryz.prog gl 181 8:={
 name:=axV
 tab:=rfl
 all:=λn wb h1 w aE=>(Any.strconv_Itoa Tryz.aat n wb h1 w aE).mono (by
  rintro e w' ⟨rfl,k,os,rfl⟩;exact⟨rfl,Lib.below_grow _ _ (aAd _) _ _⟩)}
theorem amB:K4 Tryz.prog 327:=λs c w=>Any.stringslite_IndexByte Tryz.ams s c w
theorem amC:gQ Tryz.prog 327:=⟨Tryz.f327,Tryz.func327,axV,axV⟩
theorem amD:gQ Tryz.prog 201:=⟨Tryz.f201,Tryz.func201,axV,axV⟩
theorem amE:F8 Tryz.prog 201:=⟨λb o c zs w h1 sh av=>Any.slices_Sort_int Tryz.aau b o c zs w h1 sh av,λp c w=>Any.slices_Sort_int_none Tryz.aau p c w⟩
theorem amF:gQ Tryz.prog 289:=⟨Tryz.f289,Tryz.func289,axV,axV⟩
theorem amG:K5 Tryz.prog 289 2 (Tryz.sE.t 25):=by
 have wb:(Tryz.prog.info? (Tryz.sE.t 25)).isSome=true:=axV;have h1:(Tryz.prog.info? (Tryz.sE.t 25)).map (λi=>decide (i.size=2/\i.bytes<=1000))=some true:=axV;have sh:(Tryz.prog.info? (Tryz.sE.t 25)).bind (λi=>i.zero.map λz=>z.cells.size)=some 2:=axV;obtain⟨i0,hi⟩:=Option.isSome_iff_exists.1 wb;rw[hi]at h1 sh;simp only[aBp,aAe,aAi,aCy,aA0]at h1 sh;obtain⟨z,aO,sh⟩:=sh;refine⟨i0,z,h1.1,sh,ax0,h1.2,λa w=>Any8.slices_Grow_room Tryz.Gf a 0 0 0 w (aAd _) ax0 ax0 (aAd _),λa n w gu au Cs=> ?_⟩;have h:=Any8.slices_Grow_grow Tryz.Gf i0 z hi aO axW a 0 0 n [] w (aAd _) axW (by rw[aA2];exact au) axW axX (λ_=>rfl) (λa _ j v hv=>ayx);have sh:Calls Tryz.prog (Tryz.sE.f 4) #[Value.slice a 0 0,Value.int IntKind.i64 n] w λe w'=>e=.returned (.slice (some ⟨w.heap.size,0,none⟩) 0 (grownCap w n 0 (Tryz.sE.t 25)))/\w'=w.drew.alloc (.cells (Builtin.zeroCells z.cells n++Builtin.zeroCells z.cells (grownCap w n 0 (Tryz.sE.t 25)-n)) (Tryz.sE.t 25)):=by simpa using h
 exact sh
theorem exts:uf a1 gl 179 5 95 97 131 181 168 4 3:=sD▸amz
theorem amH:F7 a1 gl 181 8:=sD▸amA
theorem amI:K4 a1 327:=sD▸amB
theorem amJ:gQ a1 327:=sD▸amC
theorem aav:gQ a1 201:=sD▸amD
theorem aaw:F8 a1 201:=sD▸amE
theorem Gf:gQ a1 289:=sD▸amF
theorem amK:K5 a1 289 2 (Tryz.sE.t 25):=sD▸amG
theorem LH:gX a1 gl ext:=akV exts
theorem p4:vB a1 tab:=akr aml
theorem globals{W:World}(h:laidMetH Tryz.prog Rows.depsRangesRow.laid W):Kd W gl:=by
 obtain⟨ps,bE,_⟩:laidMet Tryz.prog Rows.depsRangesRow.laid W:=h;intro g;match g with
 |0=>exact ug (n:=6) bE (aAM (i:=8) (by rfl)) (show Tryz.prog.globalNamed _=some 0 by kernel_rfl) (show(Tryz.prog.globals[0]?).map (·.type)=some (Tryz.prog.globals[0]!).type by kernel_rfl) axV
 |1=>exact ug (n:=6) bE (aAM (i:=9) (by rfl)) (show Tryz.prog.globalNamed _=some 1 by kernel_rfl) (show(Tryz.prog.globals[1]?).map (·.type)=some (Tryz.prog.globals[1]!).type by kernel_rfl) axV
 |2=>exact ug (n:=6) bE (aAM (i:=7) (by rfl)) (show Tryz.prog.globalNamed _=some 2 by kernel_rfl) (show(Tryz.prog.globals[2]?).map (·.type)=some (Tryz.prog.globals[2]!).type by kernel_rfl) axV
 |3=>exact ug (n:=6) bE (aAM (i:=5) (by rfl)) (show Tryz.prog.globalNamed _=some 3 by kernel_rfl) (show(Tryz.prog.globals[3]?).map (·.type)=some (Tryz.prog.globals[3]!).type by kernel_rfl) axV
 |4=>exact ug (n:=6) bE (aAM (i:=4) (by rfl)) (show Tryz.prog.globalNamed _=some 4 by kernel_rfl) (show(Tryz.prog.globals[4]?).map (·.type)=some (Tryz.prog.globals[4]!).type by kernel_rfl) axV
 |5=>exact⟨[],λj v hv=>ayx,.nil,.inl rfl⟩
 |6=>exact ug (n:=6) bE (aAM (i:=10) (by rfl)) (show Tryz.prog.globalNamed _=some 6 by kernel_rfl) (show(Tryz.prog.globals[6]?).map (·.type)=some (Tryz.prog.globals[6]!).type by kernel_rfl) axV
 |7=>exact ug (n:=6) bE (aAM (i:=6) (by rfl)) (show Tryz.prog.globalNamed _=some 7 by kernel_rfl) (show(Tryz.prog.globals[7]?).map (·.type)=some (Tryz.prog.globals[7]!).type by kernel_rfl) axV
 |8=>exact ug (n:=6) bE (aAM (i:=2) (by rfl)) (show Tryz.prog.globalNamed _=some 8 by kernel_rfl) (show(Tryz.prog.globals[8]?).map (·.type)=some (Tryz.prog.globals[8]!).type by kernel_rfl) axV
 |9=>exact⟨[],λj v hv=>ayx,.nil,.inl rfl⟩
 |10=>exact⟨[],λj v hv=>ayx,.nil,.inl rfl⟩
 |11=>exact⟨[],λj v hv=>ayx,.nil,.inl rfl⟩
 |12=>exact⟨[],λj v hv=>ayx,.nil,.inl rfl⟩
 |n+13=>exact⟨[],λj v hv=>ayx,.nil,.inl rfl⟩
end Go.Proofs.YthffhbakgmemaaaGreatDoor
