/- Part of parts_said. -/
import Derived.Test.YthffhbakgmemaaaGreatDoorF1
import Derived.Test.YthffhbakgmemaaaGreatDoorF2
import Derived.Test.YthffhbakgmemaaaGreatDoorF3
import Derived.Test.YthffhbakgmemaaaGreatDoorF4
import Derived.Test.YthffhbakgmemaaaGreatDoorH
import Derived.Test.YthffhbakgmemaaaGreatDoorRows
set_option maxRecDepth 100000
set_option maxHeartbeats 8000000
namespace Go.Proofs.YthffhbakgmemaaaGreatDoor
open Go Go.aG
def abW:List (List (Nat×aW)):=[[(4,X'),(5,Ya),(6,Yb),(7,Yc),(8,Uq),(9,Ye),(10,ZT),(12,ZV),(13,Yg),(14,ZX),(15,ZZ)],[(16,Z1),(17,Z3),(18,Z5),(19,Z6),(20,Wj),(21,Z7),(22,Wl),(23,Yh),(24,Yj),(25,Wm),(26,Us),(27,Z9),(28,Wo),(29,Uu),(30,Wq),(31,Uw)],[(33,Z'),(34,aad),(35,Yl),(36,Ym),(37,Yo),(38,aae),(39,Yp),(40,Yq),(41,aaf),(42,Ux),(43,Ws),(44,aag),(45,Ys),(46,Wt),(47,Yu)],[(48,Wv),(49,Uy),(50,Ww),(51,UA),(52,aai),(53,Wx),(54,aak),(55,aam),(56,UB),(57,Yv),(58,Yw),(59,aao),(60,Yx),(61,Yz),(62,YB),(63,Wy)],[(64,UC),(65,aaq),(66,aas),(67,aau),(68,aaw),(69,Wz),(70,aay),(71,WB),(72,YC),(73,aaz),(74,aaB),(75,YD),(76,WC),(77,UE),(78,WD)],[(87,UF),(88,UG),(89,aaC),(90,UI),(91,UK),(92,WE),(93,WH),(94,UM)],[(96,WJ),(98,aaE),(99,aaG),(100,UO),(101,YE),(102,YG),(103,WK),(104,aaI),(105,WM),(106,UQ),(109,aaK),(110,UR)],[(116,WO),(117,aaL),(118,WR),(119,UT),(120,aaN),(121,aaO),(122,aaQ),(123,WT),(124,YI),(125,WV),(126,UW),(127,WW)],[(128,YJ),(130,aaS),(132,Md),(133,Me),(134,YL),(135,W0),(136,aaU),(137,UY),(138,UZ),(139,U1),(140,YN),(141,U3),(142,U5),(143,U7)],[(144,YP),(145,aaW),(146,W2),(147,YR),(148,U9),(149,W4),(150,Va),(151,W6),(152,aaY),(153,YT),(154,YU),(155,Vc),(156,aaZ),(157,aa0),(158,YW),(159,YY)],[(161,W8),(163,W'),(164,aa2),(165,Ve),(166,Vf),(167,Vg),(169,Xb),(170,Xd),(171,Y0),(172,Xf),(173,aa3),(174,Y1),(175,Xh)],[(176,Xj),(178,aa4),(179,aa6),(182,Vh),(183,Vj),(184,Y2),(185,Xl),(186,aa8),(187,Xn),(188,Vl),(189,Vn),(190,aa'),(191,abd)],[(192,Vp),(193,Y4),(194,abf),(195,Y6),(196,Xp),(197,Xr),(198,abh),(199,Xt),(200,Xv),(201,abj),(202,Mm),(203,Xx),(204,Vr),(205,Y9),(206,abk),(207,abm)],[(210,abo),(211,Vt),(212,Vv),(213,abq),(214,Vx),(215,Za),(216,abr),(217,Zc),(218,Ze),(219,Zf),(220,Zg),(223,Zh)],[(224,abu),(225,Vz),(226,Xz),(227,XB),(228,Zj),(229,Zl),(230,XD),(231,abv),(232,Zn),(233,VB),(234,Zp),(235,XF),(236,XH),(237,XJ),(238,abx),(239,Zr)],[(240,Zt),(241,VD),(242,VF),(244,XL),(245,VH),(246,aby),(247,XO),(248,XQ),(249,VJ),(250,VL),(251,XS)],[(257,abz),(258,VN),(259,Zv),(260,abA),(261,XU),(264,XW),(265,Zx),(266,abC),(267,Ds),(269,VP),(270,VR),(271,VT)],[(280,abE),(285,abG),(286,XY),(287,Zz)],[(288,ZB),(290,abI),(291,ZD),(292,VU),(293,abK),(297,X0),(298,ZF)],[(304,VX),(308,X2),(310,VZ),(311,V1),(312,ZH),(313,abL),(314,X4),(315,abN),(316,V3),(317,V5),(318,abP)],[(321,V7),(322,V9),(333,ZJ),(334,Wa),(335,ZL)],[(336,ZN),(337,Wc),(338,ZP),(344,abR),(345,Wf),(346,Wh),(347,wE),(348,X6),(349,ZR),(350,abU),(351,X8)]]
theorem anH:Gr a1 abW:=⟨⟨Hc,⟨Mf,⟨anu,⟨Yd,⟨Ur,⟨Yf,⟨ZU,⟨ZW,⟨Mg,⟨ZY,⟨Z0,trivial⟩⟩⟩⟩⟩⟩⟩⟩⟩⟩⟩,⟨⟨Z2,⟨Z4,⟨Mq,⟨Hd,⟨Wk,⟨Z8,⟨anr,⟨Yi,⟨Yk,⟨Wn,⟨Ut,⟨Mr,⟨Wp,⟨Uv,⟨Wr,⟨anj,trivial⟩⟩⟩⟩⟩⟩⟩⟩⟩⟩⟩⟩⟩⟩⟩⟩,⟨⟨aac,⟨Ms,⟨Mh,⟨Yn,⟨anv,⟨anB,⟨anw,⟨Yr,⟨anC,⟨L3,⟨L8,⟨aah,⟨Yt,⟨Wu,⟨anx,trivial⟩⟩⟩⟩⟩⟩⟩⟩⟩⟩⟩⟩⟩⟩⟩,⟨⟨L9,⟨Uz,⟨Ma,⟨L4,⟨aaj,⟨Mb,⟨aal,⟨aan,⟨L5,⟨anz,⟨anA,⟨aap,⟨Yy,⟨YA,⟨Dt,⟨G9,trivial⟩⟩⟩⟩⟩⟩⟩⟩⟩⟩⟩⟩⟩⟩⟩⟩,⟨⟨UD,⟨aar,⟨aat,⟨aav,⟨aax,⟨WA,⟨anD,⟨ans,⟨Mi,⟨aaA,⟨Mt,⟨Mj,⟨Mc,⟨L6,⟨ant,trivial⟩⟩⟩⟩⟩⟩⟩⟩⟩⟩⟩⟩⟩⟩⟩,⟨⟨ank,⟨UH,⟨aaD,⟨UJ,⟨UL,⟨WG,⟨WI,⟨UN,trivial⟩⟩⟩⟩⟩⟩⟩⟩,⟨⟨Ha,⟨aaF,⟨aaH,⟨UP,⟨YF,⟨YH,⟨WL,⟨aaJ,⟨WN,⟨anl,⟨Mu,⟨US,trivial⟩⟩⟩⟩⟩⟩⟩⟩⟩⟩⟩⟩,⟨⟨WQ,⟨aaM,⟨WS,⟨UU,⟨wD,⟨aaP,⟨aaR,⟨WU,⟨Du,⟨Dr,⟨UX,⟨WX,trivial⟩⟩⟩⟩⟩⟩⟩⟩⟩⟩⟩⟩,⟨⟨YK,⟨aaT,⟨WY,⟨WZ,⟨YM,⟨W1,⟨aaV,⟨L7,⟨U0,⟨U2,⟨YO,⟨U4,⟨U6,⟨U8,trivial⟩⟩⟩⟩⟩⟩⟩⟩⟩⟩⟩⟩⟩⟩,⟨⟨YQ,⟨aaX,⟨W3,⟨YS,⟨U',⟨W5,⟨Vb,⟨W7,⟨Mv,⟨Mk,⟨YV,⟨Vd,⟨Mw,⟨aa1,⟨YX,⟨YZ,trivial⟩⟩⟩⟩⟩⟩⟩⟩⟩⟩⟩⟩⟩⟩⟩⟩,⟨⟨W9,⟨Xa,⟨anE,⟨anm,⟨ano,⟨anp,⟨Xc,⟨Xe,⟨Ml,⟨Xg,⟨Mx,⟨rM,⟨Xi,trivial⟩⟩⟩⟩⟩⟩⟩⟩⟩⟩⟩⟩⟩,⟨⟨Xk,⟨aa5,⟨aa7,⟨Vi,⟨Vk,⟨Y3,⟨Xm,⟨aa9,⟨Xo,⟨Vm,⟨Vo,⟨abb,⟨abe,trivial⟩⟩⟩⟩⟩⟩⟩⟩⟩⟩⟩⟩⟩,⟨⟨Vq,⟨Y5,⟨abg,⟨Y7,⟨Xq,⟨Xs,⟨abi,⟨Xu,⟨Xw,⟨anF,⟨Y8,⟨Xy,⟨Vs,⟨Y',⟨abl,⟨abn,trivial⟩⟩⟩⟩⟩⟩⟩⟩⟩⟩⟩⟩⟩⟩⟩⟩,⟨⟨abp,⟨Vu,⟨Vw,⟨My,⟨Vy,⟨Zb,⟨abt,⟨Zd,⟨Dv,⟨Mn,⟨Mp,⟨Zi,trivial⟩⟩⟩⟩⟩⟩⟩⟩⟩⟩⟩⟩,⟨⟨qw,⟨VA,⟨XA,⟨XC,⟨Zk,⟨Zm,⟨XE,⟨abw,⟨Zo,⟨VC,⟨Zq,⟨XG,⟨XI,⟨XK,⟨anG,⟨Zs,trivial⟩⟩⟩⟩⟩⟩⟩⟩⟩⟩⟩⟩⟩⟩⟩⟩,⟨⟨Zu,⟨VE,⟨VG,⟨XM,⟨VI,⟨Dw,⟨XP,⟨XR,⟨VK,⟨VM,⟨XT,trivial⟩⟩⟩⟩⟩⟩⟩⟩⟩⟩⟩,⟨⟨Dx,⟨VO,⟨Zw,⟨abB,⟨XV,⟨XX,⟨Zy,⟨abD,⟨Hb,⟨VQ,⟨VS,⟨anq,trivial⟩⟩⟩⟩⟩⟩⟩⟩⟩⟩⟩⟩,⟨⟨abF,⟨abH,⟨XZ,⟨ZA,trivial⟩⟩⟩⟩,⟨⟨ZC,⟨abJ,⟨ZE,⟨VW,⟨Mz,⟨X1,⟨ZG,trivial⟩⟩⟩⟩⟩⟩⟩,⟨⟨VY,⟨X3,⟨V0,⟨V2,⟨ZI,⟨abM,⟨X5,⟨abO,⟨V4,⟨V6,⟨abQ,trivial⟩⟩⟩⟩⟩⟩⟩⟩⟩⟩⟩,⟨⟨V8,⟨V',⟨ZK,⟨Wb,⟨ZM,trivial⟩⟩⟩⟩⟩,⟨⟨ZO,⟨Wd,⟨ZQ,⟨abS,⟨Wg,⟨Wi,⟨abT,⟨X7,⟨ZS,⟨abV,⟨X9,trivial⟩⟩⟩⟩⟩⟩⟩⟩⟩⟩⟩,trivial⟩⟩⟩⟩⟩⟩⟩⟩⟩⟩⟩⟩⟩⟩⟩⟩⟩⟩⟩⟩⟩⟩
def anQ:List D:=[.str [33,61],.str [60,61],.str [62,61],.str [46,46],.str [40],.str [41],.str [44],.str [59],.str [58],.str [124],.str [43],.str [45],.str [42],.str [47],.str [37],.str [61],.str [60],.str [62]]
def MD:List D:=[.int .i64 0,.int .i64 0,.int .i64 1,.int .i64 1,.int .i64 2,.int .i64 2,.int .i64 1,.int .i64 2,.int .i64 1,.int .i64 1]
def ME:List D:=[.int .i64 0,.int .i64 59,.int .i64 0,.int .i64 23,.int .i64 1,.int .i64 31,.int .i64 1,.int .i64 12,.int .i64 0,.int .i64 6]
def Dy:List D:=[.ix]
def anR:List D:=[.ix]
def anS:List D:=[.lM [.str [33,61],.str [37],.str [42],.str [43],.str [45],.str [47],.str [60],.str [60,61],.str [61],.str [62],.str [62,61],.str [97,110,100],.str [111,114]] [.int .i64 4,.int .i64 6,.int .i64 6,.int .i64 5,.int .i64 5,.int .i64 6,.int .i64 4,.int .i64 4,.int .i64 4,.int .i64 4,.int .i64 4,.int .i64 2,.int .i64 1]]
def anT:List D:=[.int .i64 0,.int .i64 31,.int .i64 28,.int .i64 31,.int .i64 30,.int .i64 31,.int .i64 30,.int .i64 31,.int .i64 31,.int .i64 30,.int .i64 31,.int .i64 30,.int .i64 31]
def anU:List D:=G3
def gl:Nat->List D:=λg=>match g with|0=>anQ|1=>MD|2=>ME|3=>Dy|4=>anR|6=>anS|7=>anT|8=>anU|_=>[]
abbrev aL:=bD a1 gl
def tab:Nat->Option aW:=TC abW
def ext:Nat->List ah->aY->Out:=Lw 179 5 95 97 131 181 168
theorem anV:yh Tryz.prog gl 179 5 95 97 131 181 168 4 3 where
 pg:=⟨Tryz.f95,Tryz.func95,az5,az5⟩
 cs:=⟨Tryz.f97,Tryz.func97,az5,az5⟩
 C8:=⟨Tryz.f131,Tryz.func131,az5,az5⟩
 ci:=⟨Tryz.f181,Tryz.func181,az5,az5⟩
 ca:=⟨Tryz.f168,Tryz.func168,az5,az5⟩
 w:=λ_ _ _ _ s _ h d=>al2 {Tryz.MA with} Tryz.MB s h d
 s:=λ_ _ _ _ _ h=>al9 Tryz.anI Tryz.anJ h
 j:=⟨λa c k w=>Any.strings_Join_none Tryz.MA Tryz.MB a c k w,λr o c u k w h1 f m l n=>Any.strings_Join Tryz.MA Tryz.MB r o c u k w h1 f m l n⟩
 i:=⟨λi p w=>Any.strconv_Itoa_small {Tryz.abZ with} i p w⟩
 a:=⟨λs h v g w=>(Any.strconv_Atoi_ok Tryz.MC s h v g w).mono (by
  rintro e w' ⟨rfl,h|⟨t,h⟩⟩
  .exact⟨rfl,by rw[h];exact RowKit.Below.refl _ _⟩
  .exact⟨rfl,by rw[h];exact Lib.bytesWorld_below _ _ _⟩)⟩
 GF:=⟨rfl,rfl,λs d g aO w h1 f=>(Any.strconv_Atoi_range Tryz.MC s d g aO w h1 f).mono (by
  rintro e w' ⟨N,rfl,_,_,au⟩;exact⟨_,_,rfl,au⟩),λs d g aO w h1 f=>(Any.strconv_Atoi_syntax Tryz.MC s d g aO w h1 f).mono (by
  rintro e w' ⟨N,rfl,_,_,au⟩;exact⟨_,_,rfl,au⟩)⟩
theorem anW:G4 Tryz.prog gl 181 8:={
 name:=az5
 tab:=rfl
 all:=λn bB h1 w a=>(Any.strconv_Itoa Tryz.abZ n bB h1 w a).mono (by
  rintro e w' ⟨rfl,k,os,rfl⟩;exact⟨rfl,Lib.below_grow _ _ (aCw _) _ _⟩)}
theorem anX:LZ Tryz.prog 327:=λs c w=>Any.stringslite_IndexByte Tryz.anO s c w
theorem anY:gq Tryz.prog 327:=⟨Tryz.f327,Tryz.func327,az5,az5⟩
theorem anZ:gq Tryz.prog 201:=⟨Tryz.f201,Tryz.func201,az5,az5⟩
theorem an0:G5 Tryz.prog 201:=⟨λb o c f w h1 a d=>Any.slices_Sort_int Tryz.ab0 b o c f w h1 a d,λp c w=>Any.slices_Sort_int_none Tryz.ab0 p c w⟩
theorem an1:gq Tryz.prog 289:=⟨Tryz.f289,Tryz.func289,az5,az5⟩
theorem an2:L1 Tryz.prog 289 2 (Tryz.ti.t 25):=by
 have bB:(Tryz.prog.info? (Tryz.ti.t 25)).isSome=true:=az5;have h1:(Tryz.prog.info? (Tryz.ti.t 25)).map (λi=>decide (i.size=2/\i.bytes<=1000))=some true:=az5;have c:(Tryz.prog.info? (Tryz.ti.t 25)).bind (λi=>i.zero.map λz=>z.cells.size)=some 2:=az5;obtain⟨f,d⟩:=Option.isSome_iff_exists.1 bB;rw[d]at h1 c;simp only[aDD,aCz,aCA,aFk,aDr]at h1 c;obtain⟨z,g,c⟩:=c;refine⟨f,z,h1.1,c,az',h1.2,λa w=>Any8.slices_Grow_room Tryz.He a 0 0 0 w (aCw _) az' az' (aCw _),λa n w l au k=> ?_⟩;have h:=Any8.slices_Grow_grow Tryz.He f z d g az6 a 0 0 n [] w (aCw _) az6 (by rw[aDl];exact au) az6 az7 (λ_=>rfl) (λa _ j v hv=>aAH);have c:Calls Tryz.prog (Tryz.ti.f 4) #[Value.slice a 0 0,Value.int IntKind.i64 n] w λe w'=>e=.returned (.slice (some ⟨w.heap.size,0,none⟩) 0 (grownCap w n 0 (Tryz.ti.t 25)))/\w'=w.drew.alloc (.cells (Builtin.zeroCells z.cells n++Builtin.zeroCells z.cells (grownCap w n 0 (Tryz.ti.t 25)-n)) (Tryz.ti.t 25)):=by simpa using h
 exact c
theorem exts:yh a1 gl 179 5 95 97 131 181 168 4 3:=qv▸anV
theorem an3:G4 a1 gl 181 8:=qv▸anW
theorem an4:LZ a1 327:=qv▸anX
theorem an5:gq a1 327:=qv▸anY
theorem ab2:gq a1 201:=qv▸anZ
theorem ab3:G5 a1 201:=qv▸an0
theorem He:gq a1 289:=qv▸an1
theorem an6:L1 a1 289 2 (Tryz.ti.t 25):=qv▸an2
theorem MF:hP a1 gl ext:=amo exts
theorem uZ:wk a1 tab:=alV anH
theorem globals{W:World}(h:laidMetH Tryz.prog Rows.depsPartsRow.laid W):K6 W gl:=by
 obtain⟨c,a,_⟩:laidMet Tryz.prog Rows.depsPartsRow.laid W:=h;intro g;match g with
 |0=>exact wu (n:=6) a (aC8 (i:=8) (by rfl)) (show Tryz.prog.globalNamed _=some 0 by kernel_rfl) (show(Tryz.prog.globals[0]?).map (·.type)=some (Tryz.prog.globals[0]!).type by kernel_rfl) az5
 |1=>exact wu (n:=6) a (aC8 (i:=9) (by rfl)) (show Tryz.prog.globalNamed _=some 1 by kernel_rfl) (show(Tryz.prog.globals[1]?).map (·.type)=some (Tryz.prog.globals[1]!).type by kernel_rfl) az5
 |2=>exact wu (n:=6) a (aC8 (i:=7) (by rfl)) (show Tryz.prog.globalNamed _=some 2 by kernel_rfl) (show(Tryz.prog.globals[2]?).map (·.type)=some (Tryz.prog.globals[2]!).type by kernel_rfl) az5
 |3=>exact wu (n:=6) a (aC8 (i:=5) (by rfl)) (show Tryz.prog.globalNamed _=some 3 by kernel_rfl) (show(Tryz.prog.globals[3]?).map (·.type)=some (Tryz.prog.globals[3]!).type by kernel_rfl) az5
 |4=>exact wu (n:=6) a (aC8 (i:=4) (by rfl)) (show Tryz.prog.globalNamed _=some 4 by kernel_rfl) (show(Tryz.prog.globals[4]?).map (·.type)=some (Tryz.prog.globals[4]!).type by kernel_rfl) az5
 |5=>exact⟨[],λj v hv=>aAH,.nil,.inl rfl⟩
 |6=>exact wu (n:=6) a (aC8 (i:=10) (by rfl)) (show Tryz.prog.globalNamed _=some 6 by kernel_rfl) (show(Tryz.prog.globals[6]?).map (·.type)=some (Tryz.prog.globals[6]!).type by kernel_rfl) az5
 |7=>exact wu (n:=6) a (aC8 (i:=6) (by rfl)) (show Tryz.prog.globalNamed _=some 7 by kernel_rfl) (show(Tryz.prog.globals[7]?).map (·.type)=some (Tryz.prog.globals[7]!).type by kernel_rfl) az5
 |8=>exact wu (n:=6) a (aC8 (i:=2) (by rfl)) (show Tryz.prog.globalNamed _=some 8 by kernel_rfl) (show(Tryz.prog.globals[8]?).map (·.type)=some (Tryz.prog.globals[8]!).type by kernel_rfl) az5
 |9=>exact⟨[],λj v hv=>aAH,.nil,.inl rfl⟩
 |10=>exact⟨[],λj v hv=>aAH,.nil,.inl rfl⟩
 |11=>exact⟨[],λj v hv=>aAH,.nil,.inl rfl⟩
 |12=>exact⟨[],λj v hv=>aAH,.nil,.inl rfl⟩
 |n+13=>exact⟨[],λj v hv=>aAH,.nil,.inl rfl⟩
end Go.Proofs.YthffhbakgmemaaaGreatDoor
