/- Part of texts_said. -/
import Derived.Test.YtmgpekpnidjfoaaGreatDoorF1
import Derived.Test.YtmgpekpnidjfoaaGreatDoorF2
import Derived.Test.YtmgpekpnidjfoaaGreatDoorF3
import Derived.Test.YtmgpekpnidjfoaaGreatDoorF4
import Derived.Test.YtmgpekpnidjfoaaGreatDoorH
import Derived.Test.YtmgpekpnidjfoaaGreatDoorRows
set_option maxRecDepth 100000
set_option maxHeartbeats 8000000
namespace Go.Proofs.YtmgpekpnidjfoaaGreatDoor
open Go Go.aJ
def Zz:List (List (Nat×aX)):=[[(3,Us),(5,Ut),(6,XY),(7,XZ),(8,Uu),(9,Uw),(10,SK)],[(17,SM),(20,Wa),(21,Uy),(22,SP),(23,SQ),(24,Uz),(25,UB),(26,X1),(27,UD),(29,Wc),(31,UE)],[(32,X2),(33,X4),(34,X6),(35,X7),(36,X8),(37,SR),(38,X'),(39,SU),(40,Yb),(41,Wd),(42,UG),(43,Wg),(44,UI),(45,Wh),(47,UJ)],[(48,UK),(49,SV),(50,UM),(51,SX),(52,Yd),(53,UO),(54,Ye),(55,Wj),(56,Wl),(57,Yg),(58,Wn),(60,SZ),(61,KB),(62,KC),(63,UQ)],[(64,Wp),(65,Yi),(66,Yj),(67,Yk),(68,US),(69,S3),(70,UU),(71,S5),(72,S7),(73,UW),(74,Ym),(75,UX),(76,S9),(77,Yo),(78,Wr),(79,UZ)],[(80,Yq),(81,Ws),(83,Yr),(84,Wu),(85,Ww),(86,Wy),(87,U0),(88,Yt),(89,WA),(90,Ta),(91,Yu),(92,U2),(93,WC),(94,Tc),(95,WE)],[(96,U4),(97,WH),(98,U6),(99,WJ),(100,U7),(101,Yw),(102,Yy),(104,U9),(105,Va),(107,Td),(108,Vc),(109,WK),(110,YA),(111,Tf)],[(112,YC),(113,WM),(114,WO),(115,Ti),(116,Vd),(117,Tk),(118,Tl),(119,Cp),(120,Tn),(121,Vf),(122,YE),(123,YG),(124,To),(125,YH),(126,WR),(127,Vh)],[(128,Tp),(129,YI),(131,Vi),(132,WS),(133,YK),(134,WU),(135,Vk),(136,YM),(137,YO),(138,Tr),(139,WW),(140,YQ),(141,WX),(142,Tt),(143,WZ)],[(144,YR),(145,Tw),(146,YT),(147,Ty),(148,TA),(149,W0),(150,TB),(151,Vm),(153,YV),(154,YX),(155,Vn),(156,Vp),(157,YZ),(158,TC),(159,Y0)],[(160,Vq),(162,TE),(163,Y2),(164,Y3),(165,W1),(166,TG),(167,Y5),(168,TI),(169,TK),(170,W3),(171,W4),(173,Y7),(174,TM),(175,Y9)],[(176,W6),(177,TP),(178,W8),(179,TR),(180,KF),(181,TT),(182,Za),(183,Zc),(186,Vr),(187,Xa),(188,Vt),(189,Xc),(190,TV),(191,Ze)],[(192,Xe),(193,Xg),(194,Xh),(196,Vv),(197,Xi),(198,Xk),(199,Zg),(202,TX),(203,Xm),(204,Vx),(205,Zi),(206,TY),(207,Zk)],[(208,Vz),(209,T0),(210,VB),(211,Xn),(212,Xp),(213,Zl),(214,T2),(215,Zn),(216,VD),(217,Xq),(218,VF)],[(224,T4),(225,Xt),(226,T5),(227,VH),(228,Xv),(234,Xx),(235,Xy),(236,XA),(237,T7)],[(247,T8),(248,T9),(249,Zo),(250,XC),(251,Zp),(252,Zq),(253,VJ),(254,Ua),(255,VL)],[(256,XD),(258,VN),(259,Uc),(263,VP),(264,VR),(269,Ue),(270,Ug)],[(276,XF),(277,Uh),(278,XH),(279,VT),(280,Ui),(281,Uk),(282,Zr),(283,Um),(284,VW),(285,XI)],[(288,XK),(289,Uo),(292,Zt),(293,VY),(295,XM),(296,V0),(297,XO),(298,XQ),(299,V2),(300,XS),(301,V4),(303,V6)],[(304,XU),(305,V8),(306,u9),(307,Uq),(308,XW),(309,Zv),(310,Zx)]]
theorem ak9:E2 a1.prog Zz:=⟨⟨FC,⟨akP,⟨FF,⟨X0,⟨Uv,⟨Ux,⟨SL,trivial⟩⟩⟩⟩⟩⟩⟩,⟨⟨SN,⟨Wb,⟨akQ,⟨akE,⟨akF,⟨UA,⟨UC,⟨Co,⟨FD,⟨FE,⟨UF,trivial⟩⟩⟩⟩⟩⟩⟩⟩⟩⟩⟩,⟨⟨X3,⟨X5,⟨KT,⟨KU,⟨X9,⟨SS,⟨Ya,⟨KA,⟨Yc,⟨Wf,⟨UH,⟨akU,⟨akR,⟨Wi,⟨akS,trivial⟩⟩⟩⟩⟩⟩⟩⟩⟩⟩⟩⟩⟩⟩⟩,⟨⟨UL,⟨SW,⟨UN,⟨SY,⟨KV,⟨UP,⟨Yf,⟨Wk,⟨Wm,⟨Yh,⟨Wo,⟨S0,⟨S1,⟨S2,⟨UR,trivial⟩⟩⟩⟩⟩⟩⟩⟩⟩⟩⟩⟩⟩⟩⟩,⟨⟨Wq,⟨KW,⟨KX,⟨Yl,⟨UT,⟨S4,⟨KH,⟨S6,⟨S8,⟨KI,⟨Yn,⟨UY,⟨S',⟨Yp,⟨KO,⟨KJ,trivial⟩⟩⟩⟩⟩⟩⟩⟩⟩⟩⟩⟩⟩⟩⟩⟩,⟨⟨ak3,⟨Wt,⟨Ys,⟨Wv,⟨Wx,⟨Wz,⟨U1,⟨KY,⟨WB,⟨Tb,⟨Yv,⟨U3,⟨WD,⟨u7,⟨WG,trivial⟩⟩⟩⟩⟩⟩⟩⟩⟩⟩⟩⟩⟩⟩⟩,⟨⟨U5,⟨WI,⟨Cl,⟨Cm,⟨U8,⟨Yx,⟨Yz,⟨U',⟨Vb,⟨Te,⟨KK,⟨WL,⟨YB,⟨Tg,trivial⟩⟩⟩⟩⟩⟩⟩⟩⟩⟩⟩⟩⟩⟩,⟨⟨YD,⟨WN,⟨WQ,⟨Tj,⟨Ve,⟨KD,⟨Tm,⟨FG,⟨akG,⟨Vg,⟨YF,⟨ak4,⟨KE,⟨KZ,⟨KP,⟨KL,trivial⟩⟩⟩⟩⟩⟩⟩⟩⟩⟩⟩⟩⟩⟩⟩⟩,⟨⟨Tq,⟨YJ,⟨Vj,⟨WT,⟨YL,⟨WV,⟨Vl,⟨YN,⟨YP,⟨Ts,⟨KQ,⟨K0,⟨WY,⟨Tv,⟨KR,trivial⟩⟩⟩⟩⟩⟩⟩⟩⟩⟩⟩⟩⟩⟩⟩,⟨⟨YS,⟨Tx,⟨YU,⟨Tz,⟨akH,⟨akV,⟨akI,⟨akT,⟨YW,⟨YY,⟨Vo,⟨KM,⟨qL,⟨TD,⟨Y1,trivial⟩⟩⟩⟩⟩⟩⟩⟩⟩⟩⟩⟩⟩⟩⟩,⟨⟨KN,⟨TF,⟨pJ,⟨Y4,⟨W2,⟨TH,⟨Y6,⟨TJ,⟨TL,⟨akW,⟨W5,⟨Y8,⟨TN,⟨Y',trivial⟩⟩⟩⟩⟩⟩⟩⟩⟩⟩⟩⟩⟩⟩,⟨⟨W7,⟨TQ,⟨W9,⟨akJ,⟨TS,⟨TU,⟨Zb,⟨Zd,⟨Vs,⟨Xb,⟨Vu,⟨Xd,⟨TW,⟨Zf,trivial⟩⟩⟩⟩⟩⟩⟩⟩⟩⟩⟩⟩⟩⟩,⟨⟨Xf,⟨Cn,⟨KS,⟨Vw,⟨Xj,⟨Xl,⟨Zh,⟨akK,⟨akX,⟨Vy,⟨Zj,⟨akL,⟨ak5,trivial⟩⟩⟩⟩⟩⟩⟩⟩⟩⟩⟩⟩⟩,⟨⟨VA,⟨T1,⟨VC,⟨Xo,⟨akY,⟨Zm,⟨T3,⟨Cq,⟨VE,⟨Xr,⟨VG,trivial⟩⟩⟩⟩⟩⟩⟩⟩⟩⟩⟩,⟨⟨Ck,⟨Xu,⟨T6,⟨VI,⟨Xw,⟨akZ,⟨Xz,⟨XB,⟨akM,trivial⟩⟩⟩⟩⟩⟩⟩⟩⟩,⟨⟨akN,⟨T',⟨ak6,⟨ak0,⟨ak7,⟨ak8,⟨VK,⟨Ub,⟨VM,trivial⟩⟩⟩⟩⟩⟩⟩⟩⟩,⟨⟨XE,⟨VO,⟨Ud,⟨VQ,⟨VS,⟨Uf,⟨KG,trivial⟩⟩⟩⟩⟩⟩⟩,⟨⟨XG,⟨akO,⟨ak1,⟨VU,⟨Uj,⟨Ul,⟨Zs,⟨Un,⟨VX,⟨XJ,trivial⟩⟩⟩⟩⟩⟩⟩⟩⟩⟩,⟨⟨XL,⟨Up,⟨Zu,⟨VZ,⟨ak2,⟨V1,⟨XP,⟨XR,⟨V3,⟨XT,⟨V5,⟨V7,trivial⟩⟩⟩⟩⟩⟩⟩⟩⟩⟩⟩⟩,⟨⟨XV,⟨V9,⟨V',⟨Ur,⟨XX,⟨Zw,⟨Zy,trivial⟩⟩⟩⟩⟩⟩⟩,trivial⟩⟩⟩⟩⟩⟩⟩⟩⟩⟩⟩⟩⟩⟩⟩⟩⟩⟩⟩⟩
def alF:List D:=[.str [],.str [105,110,116],.str [116,101,120,116]]
def K4:List D:=[.int .i64 0,.int .i64 59,.int .i64 0,.int .i64 23,.int .i64 1,.int .i64 31,.int .i64 1,.int .i64 12,.int .i64 0,.int .i64 6]
def K5:List D:=[.str [33,61],.str [60,61],.str [62,61],.str [46,46],.str [40],.str [41],.str [44],.str [59],.str [58],.str [124],.str [43],.str [45],.str [42],.str [47],.str [37],.str [61],.str [60],.str [62]]
def Cr:List D:=[.int .i64 0,.int .i64 0,.int .i64 1,.int .i64 1,.int .i64 2,.int .i64 2,.int .i64 1,.int .i64 2,.int .i64 1,.int .i64 1]
def alG:List D:=[.k6 [.str [33,61],.str [37],.str [42],.str [43],.str [45],.str [47],.str [60],.str [60,61],.str [61],.str [62],.str [62,61],.str [97,110,100],.str [111,114]] [.int .i64 4,.int .i64 6,.int .i64 6,.int .i64 5,.int .i64 5,.int .i64 6,.int .i64 4,.int .i64 4,.int .i64 4,.int .i64 4,.int .i64 4,.int .i64 2,.int .i64 1]]
def alH:List D:=[.hL]
def alI:List D:=[.hL]
def alJ:List D:=Fv
def alK:List D:=[.int .i64 0,.int .i64 31,.int .i64 28,.int .i64 31,.int .i64 30,.int .i64 31,.int .i64 30,.int .i64 31,.int .i64 31,.int .i64 30,.int .i64 31,.int .i64 30,.int .i64 31]
def gl:Nat->List D:=λg=>match g with|0=>alF|1=>K4|2=>K5|3=>Cr|7=>alG|8=>alH|9=>alI|10=>alJ|11=>alK|_=>[]
abbrev aM:=bM a1.prog gl
def tab:Nat->Option aX:=RO Zz
def ext:Nat->List ag->aV->Out:=J7 94 5 28 30 46 106 152
theorem alL:tD Tryz.prog gl 94 5 28 30 46 106 152 9 8 where
 oy:=⟨Tryz.f28,Tryz.func28,axr,axr⟩
 cs:=⟨Tryz.f30,Tryz.func30,axr,axr⟩
 B1:=⟨Tryz.f46,Tryz.func46,axr,axr⟩
 ci:=⟨Tryz.f106,Tryz.func106,axr,axr⟩
 ca:=⟨Tryz.f152,Tryz.func152,axr,axr⟩
 w:=λ_ _ _ _ s _ h aH=>ajm {Tryz.K1 with} Tryz.K2 s h aH
 s:=λ_ _ _ _ _ h=>ajt Tryz.ak' Tryz.ala h
 j:=⟨λa c sep w=>Any.strings_Join_none Tryz.K1 Tryz.K2 a c sep w,λk9 o c xs sep w h1 h2 av aZ bW=>Any.strings_Join Tryz.K1 Tryz.K2 k9 o c xs sep w h1 h2 av aZ bW⟩
 i:=⟨λi hi w=>Any.strconv_Itoa_small {Tryz.ZG with} i hi w⟩
 a:=⟨λs h v hv w=>(Any.strconv_Atoi_ok Tryz.K3 s h v hv w).mono (by
  rintro e w' ⟨rfl,h|⟨t,h⟩⟩
  .exact⟨rfl,by rw[h];exact RowKit.Below.refl _ _⟩
  .exact⟨rfl,by rw[h];exact Lib.bytesWorld_below _ _ _⟩)⟩
 Fb:=⟨rfl,rfl,λs aH hv aK w h1 h2=>(Any.strconv_Atoi_range Tryz.K3 s aH hv aK w h1 h2).mono (by
  rintro e w' ⟨N,rfl,_,_,aq⟩;exact⟨_,_,rfl,aq⟩),λs aH hv aK w h1 h2=>(Any.strconv_Atoi_syntax Tryz.K3 s aH hv aK w h1 h2).mono (by
  rintro e w' ⟨N,rfl,_,_,aq⟩;exact⟨_,_,rfl,aq⟩)⟩
theorem alM:Fw Tryz.prog gl 106 10:={
 name:=axr
 tab:=rfl
 all:=λn h0 h1 w aC=>(Any.strconv_Itoa Tryz.ZG n h0 h1 w aC).mono (by
  rintro e w' ⟨rfl,k,os,rfl⟩;exact⟨rfl,Lib.below_grow _ _ (azI _) _ _⟩)}
theorem alN:Kw Tryz.prog 200:=λs c w=>Any.stringslite_IndexByte Tryz.alE s c w
theorem alO:gL Tryz.prog 200:=⟨Tryz.f200,Tryz.func200,axr,axr⟩
theorem alP:gL Tryz.prog 179:=⟨Tryz.f179,Tryz.func179,axr,axr⟩
theorem alQ:Fx Tryz.prog 179:=⟨λb o c zs w h1 h2 av=>Any.slices_Sort_int Tryz.ZH b o c zs w h1 h2 av,λp c w=>Any.slices_Sort_int_none Tryz.ZH p c w⟩
theorem alR:gL Tryz.prog 257:=⟨Tryz.f257,Tryz.func257,axr,axr⟩
theorem alS:Kx Tryz.prog 257 2 (Tryz.r4.t 25):=by
 have h0:(Tryz.prog.info? (Tryz.r4.t 25)).isSome=true:=axr;have h1:(Tryz.prog.info? (Tryz.r4.t 25)).map (λi=>decide (i.size=2/\i.bytes<=1000))=some true:=axr;have h2:(Tryz.prog.info? (Tryz.r4.t 25)).bind (λi=>i.zero.map λz=>z.cells.size)=some 2:=axr;obtain⟨i0,hi⟩:=Option.isSome_iff_exists.1 h0;rw[hi]at h1 h2;simp only[aAL,azJ,azN,aBZ,aAt]at h1 h2;obtain⟨z,aQ,h2⟩:=h2;refine⟨i0,z,h1.1,h2,axw,h1.2,λa w=>Any8.slices_Grow_room Tryz.FH a 0 0 0 w (azI _) axw axw (azI _),λa n w gq aq BW=> ?_⟩;have h:=Any8.slices_Grow_grow Tryz.FH i0 z hi aQ axs a 0 0 n [] w (azI _) axs (by rw[aAy];exact aq) axs axt (λ_=>rfl) (λa _ j v hv=>ax6);have h2:Calls Tryz.prog (Tryz.r4.f 4) #[Value.slice a 0 0,Value.int IntKind.i64 n] w λe w'=>e=.returned (.slice (some ⟨w.heap.size,0,none⟩) 0 (grownCap w n 0 (Tryz.r4.t 25)))/\w'=w.drew.alloc (.cells (Builtin.zeroCells z.cells n++Builtin.zeroCells z.cells (grownCap w n 0 (Tryz.r4.t 25)-n)) (Tryz.r4.t 25)):=by simpa using h
 exact h2
theorem exts:tD a1.prog gl 94 5 28 30 46 106 152 9 8:=r3▸alL
theorem alT:Fw a1.prog gl 106 10:=r3▸alM
theorem alU:Kw a1.prog 200:=r3▸alN
theorem alV:gL a1.prog 200:=r3▸alO
theorem ZI:gL a1.prog 179:=r3▸alP
theorem ZJ:Fx a1.prog 179:=r3▸alQ
theorem FH:gL a1.prog 257:=r3▸alR
theorem alW:Kx a1.prog 257 2 (Tryz.r4.t 25):=r3▸alS
theorem K6:gT a1.prog gl ext:=ajJ exts
theorem pK:uX a1.prog tab:=ajf ak9
theorem globals{W:World}(h:laidMetH Tryz.prog Rows.checkTextsRow.laid W):JG W gl:=by
 obtain⟨ps,bF,_⟩:laidMet Tryz.prog Rows.checkTextsRow.laid W:=h;intro g;match g with
 |0=>exact tE (n:=6) bF (aAe (i:=9) (by rfl)) (show Tryz.prog.globalNamed _=some 0 by kernel_rfl) (show(Tryz.prog.globals[0]?).map (·.type)=some (Tryz.prog.globals[0]!).type by kernel_rfl) axr
 |1=>exact tE (n:=6) bF (aAe (i:=7) (by rfl)) (show Tryz.prog.globalNamed _=some 1 by kernel_rfl) (show(Tryz.prog.globals[1]?).map (·.type)=some (Tryz.prog.globals[1]!).type by kernel_rfl) axr
 |2=>exact tE (n:=6) bF (aAe (i:=8) (by rfl)) (show Tryz.prog.globalNamed _=some 2 by kernel_rfl) (show(Tryz.prog.globals[2]?).map (·.type)=some (Tryz.prog.globals[2]!).type by kernel_rfl) axr
 |3=>exact tE (n:=6) bF (aAe (i:=10) (by rfl)) (show Tryz.prog.globalNamed _=some 3 by kernel_rfl) (show(Tryz.prog.globals[3]?).map (·.type)=some (Tryz.prog.globals[3]!).type by kernel_rfl) axr
 |4=>exact⟨[],λj v hv=>ax6,.nil,.inl rfl⟩
 |5=>exact⟨[],λj v hv=>ax6,.nil,.inl rfl⟩
 |6=>exact⟨[],λj v hv=>ax6,.nil,.inl rfl⟩
 |7=>exact tE (n:=6) bF (aAe (i:=11) (by rfl)) (show Tryz.prog.globalNamed _=some 7 by kernel_rfl) (show(Tryz.prog.globals[7]?).map (·.type)=some (Tryz.prog.globals[7]!).type by kernel_rfl) axr
 |8=>exact tE (n:=6) bF (aAe (i:=5) (by rfl)) (show Tryz.prog.globalNamed _=some 8 by kernel_rfl) (show(Tryz.prog.globals[8]?).map (·.type)=some (Tryz.prog.globals[8]!).type by kernel_rfl) axr
 |9=>exact tE (n:=6) bF (aAe (i:=4) (by rfl)) (show Tryz.prog.globalNamed _=some 9 by kernel_rfl) (show(Tryz.prog.globals[9]?).map (·.type)=some (Tryz.prog.globals[9]!).type by kernel_rfl) axr
 |10=>exact tE (n:=6) bF (aAe (i:=2) (by rfl)) (show Tryz.prog.globalNamed _=some 10 by kernel_rfl) (show(Tryz.prog.globals[10]?).map (·.type)=some (Tryz.prog.globals[10]!).type by kernel_rfl) axr
 |11=>exact tE (n:=6) bF (aAe (i:=6) (by rfl)) (show Tryz.prog.globalNamed _=some 11 by kernel_rfl) (show(Tryz.prog.globals[11]?).map (·.type)=some (Tryz.prog.globals[11]!).type by kernel_rfl) axr
 |12=>exact⟨[],λj v hv=>ax6,.nil,.inl rfl⟩
 |13=>exact⟨[],λj v hv=>ax6,.nil,.inl rfl⟩
 |n+14=>exact⟨[],λj v hv=>ax6,.nil,.inl rfl⟩
end Go.Proofs.YtmgpekpnidjfoaaGreatDoor
