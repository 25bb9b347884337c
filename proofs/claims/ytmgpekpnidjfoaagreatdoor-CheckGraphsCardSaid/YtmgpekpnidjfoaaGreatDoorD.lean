/- Part of graphs_said. -/
import Derived.Test.YtmgpekpnidjfoaaGreatDoorF1
import Derived.Test.YtmgpekpnidjfoaaGreatDoorF2
import Derived.Test.YtmgpekpnidjfoaaGreatDoorF3
import Derived.Test.YtmgpekpnidjfoaaGreatDoorF4
import Derived.Test.YtmgpekpnidjfoaaGreatDoorH
import Derived.Test.YtmgpekpnidjfoaaGreatDoorRows
set_option maxRecDepth 100000
set_option maxHeartbeats 8000000
namespace Go.Proofs.YtmgpekpnidjfoaaGreatDoor
open Go Go.aH
def aaq:List (List (Nat×aX)):=[[(4,Tp),(5,WT),(6,Tq),(7,YG),(8,U4),(11,Tr),(12,WU),(13,Tt),(14,YI),(15,YK)],[(16,Tw),(17,Ty),(18,TA),(19,WW),(20,U6),(21,TC),(22,TD),(23,TE),(24,WY),(25,YM),(26,YO),(27,U8),(29,TF),(31,U9)],[(32,W0),(33,Va),(34,W2),(35,Vc),(36,YP),(37,TG),(38,Vd),(39,Vf),(40,TI),(41,Vg),(42,Vi),(43,YR),(44,W3),(45,YS),(47,YU)],[(48,Vk),(49,TK),(50,TM),(51,YW),(52,YY),(53,W4),(54,W6),(55,YZ),(56,Vm),(57,TP),(58,Vo),(60,Vq),(61,Lt),(62,K9),(63,Y2)],[(64,Y4),(65,Y6),(66,W8),(67,Vs),(68,Y7),(69,Y9),(70,Vu),(71,Vv),(72,Za),(73,TS),(74,W9),(75,Zc),(76,Vx),(77,Vz),(78,Ze),(79,VB)],[(80,TT),(81,Xb),(83,Xd),(84,Xf),(85,VC),(86,Xh),(87,Xj),(88,VE),(89,TU),(90,Xl),(91,Zf),(92,VF),(93,VH),(94,TW),(95,TX)],[(96,T0),(97,VJ),(98,T2),(99,T3),(100,Xn),(101,Xp),(102,VL),(104,Xr),(105,Zh),(107,T4),(108,VN),(109,Xu),(110,T6),(111,Zj)],[(112,VO),(113,Xw),(114,VQ),(115,Zl),(116,Xy),(117,T8),(118,VS),(119,CS),(120,T9),(121,XA),(122,XC),(123,T'),(124,Ua),(125,XE),(126,Zn),(127,VU)],[(128,Ub),(129,XF),(131,Zo),(132,Ud),(133,Uf),(134,XH),(135,VW),(136,XJ),(137,Zq),(138,XL),(139,XO),(140,XP),(141,Uh),(142,Zs),(143,Zu)],[(144,Zv),(145,Zx),(146,Zz),(147,VY),(148,XQ),(149,XR),(150,Uj),(151,ZB),(153,V0),(154,ZC),(155,Uk),(156,ZE),(157,XS),(158,ZF),(159,V2)],[(160,XT),(162,XU),(163,XW),(164,V4),(165,V6),(166,ZH),(167,V8),(168,XX),(169,ZJ),(170,V'),(171,ZL),(173,Wa),(174,Um),(175,XZ)],[(176,Uo),(177,Uq),(178,ZN),(179,Us),(180,Lz),(181,Ut),(182,X1),(183,ZQ),(186,X3),(187,ZS),(188,ZU),(189,Uv),(190,Wc),(191,ZW)],[(192,Wf),(193,ZY),(194,X5),(196,Wh),(197,Ux),(198,Uz),(199,UB),(202,ZZ),(203,Wj),(204,Z0),(205,UD),(206,X6),(207,UF)],[(208,Wk),(209,X7),(210,Wm),(211,Wo),(212,UG),(213,UH),(214,UJ),(215,Wq),(216,Wr),(217,Wt),(218,Wv)],[(224,Z2),(225,Z3),(226,X9),(227,Ya),(228,UL),(234,Wx),(235,Wy),(236,WA),(237,Yc)],[(247,Z5),(248,Yd),(249,Z6),(250,Z7),(251,Yf),(252,WC),(253,Z8),(254,Z'),(255,WD)],[(256,Yg),(258,UN),(259,Yi),(263,Yk),(264,Ym),(269,Yo),(270,UP)],[(276,aad),(277,WG),(278,aaf),(279,WH),(280,Yq),(281,UQ),(282,Ys),(283,US),(284,WJ),(285,UU)],[(288,Yu),(289,WL),(292,Yw),(293,WN),(295,UX),(296,UY),(297,aag),(298,U0),(299,WQ),(300,aai),(301,U2),(303,aak)],[(304,Yy),(305,YA),(306,vM),(307,aam),(308,aao),(309,YC),(310,YE)]]
theorem aml:FE a1 aaq:=⟨⟨Ga,⟨al8,⟨Gb,⟨YH,⟨U5,⟨Ts,⟨WV,⟨Tv,⟨YJ,⟨YL,trivial⟩⟩⟩⟩⟩⟩⟩⟩⟩⟩,⟨⟨Tx,⟨Tz,⟨TB,⟨WX,⟨U7,⟨alS,⟨alT,⟨alU,⟨WZ,⟨YN,⟨CU,⟨Ge,⟨Gc,⟨U',trivial⟩⟩⟩⟩⟩⟩⟩⟩⟩⟩⟩⟩⟩⟩,⟨⟨W1,⟨Vb,⟨Ll,⟨Le,⟨YQ,⟨TH,⟨Ve,⟨Lf,⟨TJ,⟨Vh,⟨Vj,⟨ame,⟨al9,⟨YT,⟨YV,trivial⟩⟩⟩⟩⟩⟩⟩⟩⟩⟩⟩⟩⟩⟩⟩,⟨⟨Vl,⟨TL,⟨TN,⟨YX,⟨Ls,⟨W5,⟨W7,⟨Y0,⟨Vn,⟨TQ,⟨Vp,⟨Vr,⟨Y1,⟨TR,⟨Y3,trivial⟩⟩⟩⟩⟩⟩⟩⟩⟩⟩⟩⟩⟩⟩⟩,⟨⟨Y5,⟨Lu,⟨Lm,⟨Vt,⟨Y8,⟨Y',⟨Lg,⟨Vw,⟨Zb,⟨La,⟨Xa,⟨Zd,⟨Vy,⟨VA,⟨Lv,⟨Lh,trivial⟩⟩⟩⟩⟩⟩⟩⟩⟩⟩⟩⟩⟩⟩⟩⟩,⟨⟨alV,⟨Xc,⟨Xe,⟨Xg,⟨VD,⟨Xi,⟨Xk,⟨Li,⟨TV,⟨Xm,⟨Zg,⟨VG,⟨VI,⟨vL,⟨TY,trivial⟩⟩⟩⟩⟩⟩⟩⟩⟩⟩⟩⟩⟩⟩⟩,⟨⟨T1,⟨VK,⟨CQ,⟨CR,⟨Xo,⟨Xq,⟨VM,⟨Xt,⟨Zi,⟨T5,⟨Lj,⟨Xv,⟨T7,⟨Zk,trivial⟩⟩⟩⟩⟩⟩⟩⟩⟩⟩⟩⟩⟩⟩,⟨⟨VP,⟨Xx,⟨VR,⟨Zm,⟨Xz,⟨Lb,⟨VT,⟨Gd,⟨alW,⟨XB,⟨XD,⟨alX,⟨Lc,⟨Ln,⟨Lw,⟨Lk,trivial⟩⟩⟩⟩⟩⟩⟩⟩⟩⟩⟩⟩⟩⟩⟩⟩,⟨⟨Uc,⟨XG,⟨Zp,⟨Ue,⟨Ug,⟨XI,⟨VX,⟨XK,⟨Zr,⟨XM,⟨Lo,⟨Lp,⟨Ui,⟨Zt,⟨Lx,trivial⟩⟩⟩⟩⟩⟩⟩⟩⟩⟩⟩⟩⟩⟩⟩,⟨⟨Zw,⟨Zy,⟨ZA,⟨VZ,⟨al',⟨ama,⟨alY,⟨amf,⟨V1,⟨ZD,⟨Ul,⟨Ly,⟨q7,⟨ZG,⟨V3,trivial⟩⟩⟩⟩⟩⟩⟩⟩⟩⟩⟩⟩⟩⟩⟩,⟨⟨Lq,⟨XV,⟨p3,⟨V5,⟨V7,⟨ZI,⟨V9,⟨XY,⟨ZK,⟨al3,⟨ZM,⟨Wb,⟨Un,⟨X0,trivial⟩⟩⟩⟩⟩⟩⟩⟩⟩⟩⟩⟩⟩⟩,⟨⟨Up,⟨Ur,⟨ZO,⟨alZ,⟨ZP,⟨Uu,⟨X2,⟨ZR,⟨X4,⟨ZT,⟨ZV,⟨Uw,⟨Wd,⟨ZX,trivial⟩⟩⟩⟩⟩⟩⟩⟩⟩⟩⟩⟩⟩⟩,⟨⟨Wg,⟨CV,⟨Lr,⟨Wi,⟨Uy,⟨UA,⟨UC,⟨amg,⟨al4,⟨Z1,⟨UE,⟨amb,⟨al0,trivial⟩⟩⟩⟩⟩⟩⟩⟩⟩⟩⟩⟩⟩,⟨⟨Wl,⟨X8,⟨Wn,⟨Wp,⟨al1,⟨UI,⟨UK,⟨CT,⟨Ws,⟨Wu,⟨Ww,trivial⟩⟩⟩⟩⟩⟩⟩⟩⟩⟩⟩,⟨⟨CW,⟨Z4,⟨X',⟨Yb,⟨UM,⟨al5,⟨Wz,⟨WB,⟨amc,trivial⟩⟩⟩⟩⟩⟩⟩⟩⟩,⟨⟨amh,⟨Ye,⟨ami,⟨amj,⟨amd,⟨al6,⟨Z9,⟨aac,⟨WE,trivial⟩⟩⟩⟩⟩⟩⟩⟩⟩,⟨⟨Yh,⟨UO,⟨Yj,⟨Yl,⟨Yn,⟨Yp,⟨Ld,trivial⟩⟩⟩⟩⟩⟩⟩,⟨⟨aae,⟨al7,⟨amk,⟨WI,⟨Yr,⟨UR,⟨Yt,⟨UT,⟨WK,⟨UW,trivial⟩⟩⟩⟩⟩⟩⟩⟩⟩⟩,⟨⟨Yv,⟨WM,⟨Yx,⟨WO,⟨al2,⟨UZ,⟨aah,⟨U1,⟨WR,⟨aaj,⟨U3,⟨aal,trivial⟩⟩⟩⟩⟩⟩⟩⟩⟩⟩⟩⟩,⟨⟨Yz,⟨YB,⟨WS,⟨aan,⟨aap,⟨YD,⟨YF,trivial⟩⟩⟩⟩⟩⟩⟩,trivial⟩⟩⟩⟩⟩⟩⟩⟩⟩⟩⟩⟩⟩⟩⟩⟩⟩⟩⟩⟩
def amt:List D:=[.str [],.str [105,110,116],.str [116,101,120,116]]
def LF:List D:=[.int .i64 0,.int .i64 59,.int .i64 0,.int .i64 23,.int .i64 1,.int .i64 31,.int .i64 1,.int .i64 12,.int .i64 0,.int .i64 6]
def LG:List D:=[.str [33,61],.str [60,61],.str [62,61],.str [46,46],.str [40],.str [41],.str [44],.str [59],.str [58],.str [124],.str [43],.str [45],.str [42],.str [47],.str [37],.str [61],.str [60],.str [62]]
def CX:List D:=[.int .i64 0,.int .i64 0,.int .i64 1,.int .i64 1,.int .i64 2,.int .i64 2,.int .i64 1,.int .i64 2,.int .i64 1,.int .i64 1]
def amu:List D:=[.ln [.str [33,61],.str [37],.str [42],.str [43],.str [45],.str [47],.str [60],.str [60,61],.str [61],.str [62],.str [62,61],.str [97,110,100],.str [111,114]] [.int .i64 4,.int .i64 6,.int .i64 6,.int .i64 5,.int .i64 5,.int .i64 6,.int .i64 4,.int .i64 4,.int .i64 4,.int .i64 4,.int .i64 4,.int .i64 2,.int .i64 1]]
def amv:List D:=[.hT]
def amw:List D:=[.hT]
def amx:List D:=F6
def amy:List D:=[.int .i64 0,.int .i64 31,.int .i64 28,.int .i64 31,.int .i64 30,.int .i64 31,.int .i64 30,.int .i64 31,.int .i64 31,.int .i64 30,.int .i64 31,.int .i64 30,.int .i64 31]
def gl:Nat->List D:=λg=>match g with|0=>amt|1=>LF|2=>LG|3=>CX|7=>amu|8=>amv|9=>amw|10=>amx|11=>amy|_=>[]
abbrev aM:=bG a1 gl
def tab:Nat->Option aX:=Sv aaq
def ext:Nat->List ah->aU->Out:=KE 94 5 28 30 46 106 152
theorem amz:uf Tryz.prog gl 94 5 28 30 46 106 152 9 8 where
 oS:=⟨Tryz.f28,Tryz.func28,axV,axV⟩
 cs:=⟨Tryz.f30,Tryz.func30,axV,axV⟩
 Cw:=⟨Tryz.f46,Tryz.func46,axV,axV⟩
 ci:=⟨Tryz.f106,Tryz.func106,axV,axV⟩
 ca:=⟨Tryz.f152,Tryz.func152,axV,axV⟩
 w:=λ_ _ _ _ s _ h aI=>aky {Tryz.LA with} Tryz.LB s h aI
 s:=λ_ _ _ _ _ h=>akF Tryz.amm Tryz.amn h
 j:=⟨λa c sep w=>Any.strings_Join_none Tryz.LA Tryz.LB a c sep w,λlq o c xs sep w h1 h2 av aW bL=>Any.strings_Join Tryz.LA Tryz.LB lq o c xs sep w h1 h2 av aW bL⟩
 i:=⟨λi hi w=>Any.strconv_Itoa_small {Tryz.aat with} i hi w⟩
 a:=⟨λs h v hv w=>(Any.strconv_Atoi_ok Tryz.LD s h v hv w).mono (by
  rintro e w' ⟨rfl,h|⟨t,h⟩⟩
  .exact⟨rfl,by rw[h];exact RowKit.Below.refl _ _⟩
  .exact⟨rfl,by rw[h];exact Lib.bytesWorld_below _ _ _⟩)⟩
 FO:=⟨rfl,rfl,λs aI hv aL w h1 h2=>(Any.strconv_Atoi_range Tryz.LD s aI hv aL w h1 h2).mono (by
  rintro e w' ⟨N,rfl,_,_,au⟩;exact⟨_,_,rfl,au⟩),λs aI hv aL w h1 h2=>(Any.strconv_Atoi_syntax Tryz.LD s aI hv aL w h1 h2).mono (by
  rintro e w' ⟨N,rfl,_,_,au⟩;exact⟨_,_,rfl,au⟩)⟩
theorem amA:F7 Tryz.prog gl 106 10:={
 name:=axV
 tab:=rfl
 all:=λn h0 h1 w aE=>(Any.strconv_Itoa Tryz.aat n h0 h1 w aE).mono (by
  rintro e w' ⟨rfl,k,os,rfl⟩;exact⟨rfl,Lib.below_grow _ _ (aAd _) _ _⟩)}
theorem amB:K4 Tryz.prog 200:=λs c w=>Any.stringslite_IndexByte Tryz.ams s c w
theorem amC:gQ Tryz.prog 200:=⟨Tryz.f200,Tryz.func200,axV,axV⟩
theorem amD:gQ Tryz.prog 179:=⟨Tryz.f179,Tryz.func179,axV,axV⟩
theorem amE:F8 Tryz.prog 179:=⟨λb o c zs w h1 h2 av=>Any.slices_Sort_int Tryz.aau b o c zs w h1 h2 av,λp c w=>Any.slices_Sort_int_none Tryz.aau p c w⟩
theorem amF:gQ Tryz.prog 257:=⟨Tryz.f257,Tryz.func257,axV,axV⟩
theorem amG:K5 Tryz.prog 257 2 (Tryz.sE.t 25):=by
 have h0:(Tryz.prog.info? (Tryz.sE.t 25)).isSome=true:=axV;have h1:(Tryz.prog.info? (Tryz.sE.t 25)).map (λi=>decide (i.size=2/\i.bytes<=1000))=some true:=axV;have h2:(Tryz.prog.info? (Tryz.sE.t 25)).bind (λi=>i.zero.map λz=>z.cells.size)=some 2:=axV;obtain⟨i0,hi⟩:=Option.isSome_iff_exists.1 h0;rw[hi]at h1 h2;simp only[aBp,aAe,aAi,aCy,aA0]at h1 h2;obtain⟨z,aO,h2⟩:=h2;refine⟨i0,z,h1.1,h2,ax0,h1.2,λa w=>Any8.slices_Grow_room Tryz.Gf a 0 0 0 w (aAd _) ax0 ax0 (aAd _),λa n w gu au Cs=> ?_⟩;have h:=Any8.slices_Grow_grow Tryz.Gf i0 z hi aO axW a 0 0 n [] w (aAd _) axW (by rw[aA2];exact au) axW axX (λ_=>rfl) (λa _ j v hv=>ayx);have h2:Calls Tryz.prog (Tryz.sE.f 4) #[Value.slice a 0 0,Value.int IntKind.i64 n] w λe w'=>e=.returned (.slice (some ⟨w.heap.size,0,none⟩) 0 (grownCap w n 0 (Tryz.sE.t 25)))/\w'=w.drew.alloc (.cells (Builtin.zeroCells z.cells n++Builtin.zeroCells z.cells (grownCap w n 0 (Tryz.sE.t 25)-n)) (Tryz.sE.t 25)):=by simpa using h
 exact h2
theorem exts:uf a1 gl 94 5 28 30 46 106 152 9 8:=sD▸amz
theorem amH:F7 a1 gl 106 10:=sD▸amA
theorem amI:K4 a1 200:=sD▸amB
theorem amJ:gQ a1 200:=sD▸amC
theorem aav:gQ a1 179:=sD▸amD
theorem aaw:F8 a1 179:=sD▸amE
theorem Gf:gQ a1 257:=sD▸amF
theorem amK:K5 a1 257 2 (Tryz.sE.t 25):=sD▸amG
theorem LH:gX a1 gl ext:=akV exts
theorem p4:vB a1 tab:=akr aml
theorem globals{W:World}(h:laidMetH Tryz.prog Rows.checkTextsRow.laid W):Kd W gl:=by
 obtain⟨ps,bE,_⟩:laidMet Tryz.prog Rows.checkTextsRow.laid W:=h;intro g;match g with
 |0=>exact ug (n:=6) bE (aAM (i:=9) (by rfl)) (show Tryz.prog.globalNamed _=some 0 by kernel_rfl) (show(Tryz.prog.globals[0]?).map (·.type)=some (Tryz.prog.globals[0]!).type by kernel_rfl) axV
 |1=>exact ug (n:=6) bE (aAM (i:=7) (by rfl)) (show Tryz.prog.globalNamed _=some 1 by kernel_rfl) (show(Tryz.prog.globals[1]?).map (·.type)=some (Tryz.prog.globals[1]!).type by kernel_rfl) axV
 |2=>exact ug (n:=6) bE (aAM (i:=8) (by rfl)) (show Tryz.prog.globalNamed _=some 2 by kernel_rfl) (show(Tryz.prog.globals[2]?).map (·.type)=some (Tryz.prog.globals[2]!).type by kernel_rfl) axV
 |3=>exact ug (n:=6) bE (aAM (i:=10) (by rfl)) (show Tryz.prog.globalNamed _=some 3 by kernel_rfl) (show(Tryz.prog.globals[3]?).map (·.type)=some (Tryz.prog.globals[3]!).type by kernel_rfl) axV
 |4=>exact⟨[],λj v hv=>ayx,.nil,.inl rfl⟩
 |5=>exact⟨[],λj v hv=>ayx,.nil,.inl rfl⟩
 |6=>exact⟨[],λj v hv=>ayx,.nil,.inl rfl⟩
 |7=>exact ug (n:=6) bE (aAM (i:=11) (by rfl)) (show Tryz.prog.globalNamed _=some 7 by kernel_rfl) (show(Tryz.prog.globals[7]?).map (·.type)=some (Tryz.prog.globals[7]!).type by kernel_rfl) axV
 |8=>exact ug (n:=6) bE (aAM (i:=5) (by rfl)) (show Tryz.prog.globalNamed _=some 8 by kernel_rfl) (show(Tryz.prog.globals[8]?).map (·.type)=some (Tryz.prog.globals[8]!).type by kernel_rfl) axV
 |9=>exact ug (n:=6) bE (aAM (i:=4) (by rfl)) (show Tryz.prog.globalNamed _=some 9 by kernel_rfl) (show(Tryz.prog.globals[9]?).map (·.type)=some (Tryz.prog.globals[9]!).type by kernel_rfl) axV
 |10=>exact ug (n:=6) bE (aAM (i:=2) (by rfl)) (show Tryz.prog.globalNamed _=some 10 by kernel_rfl) (show(Tryz.prog.globals[10]?).map (·.type)=some (Tryz.prog.globals[10]!).type by kernel_rfl) axV
 |11=>exact ug (n:=6) bE (aAM (i:=6) (by rfl)) (show Tryz.prog.globalNamed _=some 11 by kernel_rfl) (show(Tryz.prog.globals[11]?).map (·.type)=some (Tryz.prog.globals[11]!).type by kernel_rfl) axV
 |12=>exact⟨[],λj v hv=>ayx,.nil,.inl rfl⟩
 |13=>exact⟨[],λj v hv=>ayx,.nil,.inl rfl⟩
 |n+14=>exact⟨[],λj v hv=>ayx,.nil,.inl rfl⟩
end Go.Proofs.YtmgpekpnidjfoaaGreatDoor
