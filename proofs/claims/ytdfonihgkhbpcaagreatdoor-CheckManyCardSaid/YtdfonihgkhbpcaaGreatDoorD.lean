/- Part of many_said. -/
import Derived.Test.YtdfonihgkhbpcaaGreatDoorF1
import Derived.Test.YtdfonihgkhbpcaaGreatDoorF2
import Derived.Test.YtdfonihgkhbpcaaGreatDoorF3
import Derived.Test.YtdfonihgkhbpcaaGreatDoorF4
import Derived.Test.YtdfonihgkhbpcaaGreatDoorH
import Derived.Test.YtdfonihgkhbpcaaGreatDoorRows
set_option maxRecDepth 100000
set_option maxHeartbeats 8000000
namespace Go.Proofs.YtdfonihgkhbpcaaGreatDoor
open Go Go.aG
def abW:List (List (Nat×aW)):=[[(3,aH4),(4,X'),(5,Ya),(6,Yb),(7,Yc),(8,Uq),(9,Ye),(10,ZT),(11,aH6),(12,ZV),(13,Yg),(14,ZX),(15,ZZ)],[(16,Z1),(17,Z3),(18,Z5),(19,Z6),(20,Wj),(21,Z7),(22,Wl),(24,Yj),(25,Wm),(26,Us),(27,Z9),(28,Wo),(29,Uu)],[(32,aIq),(34,aad),(35,Yl),(36,Ym),(37,Yo),(38,aae),(39,Yp),(40,Yq),(42,Ux),(43,Ws),(44,aag),(45,Ys),(46,Wt),(47,Yu)],[(49,Uy),(50,Ww),(51,UA),(52,aai),(53,Wx),(54,aak),(55,aam),(56,UB),(57,Yv),(58,Yw),(59,aao),(60,Yx),(61,Yz),(63,Wy)],[(64,UC),(65,aaq),(66,aas),(67,aau),(68,aaw),(69,Wz),(70,aay),(71,WB),(72,YC),(73,aaz),(74,aaB),(75,YD),(76,WC),(77,UE),(79,aH7)],[(80,aIe),(81,aIr),(82,aIy),(83,aH8),(84,aIf),(85,aIs),(86,aIz),(87,UF),(88,UG),(89,aaC),(91,UK),(92,WE),(93,WH),(94,UM),(95,aIA)],[(96,WJ),(97,aIg),(98,aaE),(99,aaG),(100,UO),(101,YE),(103,WK),(104,aaI),(105,WM),(106,UQ),(107,aIt),(109,aaK),(110,UR),(111,aIh)],[(112,aIu),(113,aIB),(114,aH9),(115,aIj),(116,WO),(118,WR),(119,UT),(121,aaO),(122,aaQ),(123,WT),(124,YI),(125,WV),(126,UW),(127,WW)],[(128,YJ),(129,aIk),(130,aaS),(131,aIC),(132,Md),(133,Me),(134,YL),(136,aaU),(137,UY),(138,UZ),(139,U1),(140,YN),(141,U3),(142,U5),(143,U7)],[(144,YP),(145,aaW),(146,W2),(147,YR),(151,W6),(152,aaY),(153,YT),(154,YU),(156,aaZ),(157,aa0)],[(161,W8),(164,aa2),(165,Ve),(169,Xb),(170,Xd),(171,Y0),(172,Xf)],[(176,Xj),(177,aIl),(178,aa4),(179,aa6),(180,aH'),(181,aIm),(182,Vh),(183,Vj),(184,Y2),(186,aa8),(187,Xn)],[(197,Xr),(198,abh),(203,Xx),(205,Y9),(206,abk)],[(208,aIa),(212,Vv),(222,aIv)],[(224,abu),(229,Zl),(230,XD),(231,abv),(232,Zn),(234,Zp),(239,Zr)],[(240,Zt),(246,aby),(255,aIb)],[(258,VN),(259,Zv),(260,abA),(261,XU),(262,aIn),(263,aIw),(267,Ds),(268,aIc)],[(281,aIo),(282,aIx),(283,aID),(286,XY)],[(292,VU),(293,abK),(294,aIE),(295,aId),(296,aIp),(298,ZF)]]
theorem anH:Gr a1 abW:=⟨⟨aH5,⟨Hc,⟨Mf,⟨anu,⟨Yd,⟨Ur,⟨Yf,⟨ZU,⟨aI6,⟨ZW,⟨Mg,⟨ZY,⟨Z0,trivial⟩⟩⟩⟩⟩⟩⟩⟩⟩⟩⟩⟩⟩,⟨⟨Z2,⟨Z4,⟨Mq,⟨Hd,⟨Wk,⟨Z8,⟨anr,⟨Yk,⟨Wn,⟨Ut,⟨Mr,⟨Wp,⟨Uv,trivial⟩⟩⟩⟩⟩⟩⟩⟩⟩⟩⟩⟩⟩,⟨⟨aJo,⟨Ms,⟨Mh,⟨Yn,⟨anv,⟨anB,⟨anw,⟨Yr,⟨L3,⟨L8,⟨aah,⟨Yt,⟨Wu,⟨anx,trivial⟩⟩⟩⟩⟩⟩⟩⟩⟩⟩⟩⟩⟩⟩,⟨⟨Uz,⟨Ma,⟨L4,⟨aaj,⟨Mb,⟨aal,⟨aan,⟨L5,⟨anz,⟨anA,⟨aap,⟨Yy,⟨YA,⟨G9,trivial⟩⟩⟩⟩⟩⟩⟩⟩⟩⟩⟩⟩⟩⟩,⟨⟨UD,⟨aar,⟨aat,⟨aav,⟨aax,⟨WA,⟨anD,⟨ans,⟨Mi,⟨aaA,⟨Mt,⟨Mj,⟨Mc,⟨L6,⟨aI7,trivial⟩⟩⟩⟩⟩⟩⟩⟩⟩⟩⟩⟩⟩⟩⟩,⟨⟨aJe,⟨aJp,⟨aJw,⟨aI8,⟨aJf,⟨aJq,⟨aJx,⟨ank,⟨UH,⟨aaD,⟨UL,⟨WG,⟨WI,⟨UN,⟨aJy,trivial⟩⟩⟩⟩⟩⟩⟩⟩⟩⟩⟩⟩⟩⟩⟩,⟨⟨Ha,⟨aJg,⟨aaF,⟨aaH,⟨UP,⟨YF,⟨WL,⟨aaJ,⟨WN,⟨anl,⟨aJr,⟨Mu,⟨US,⟨aIi,trivial⟩⟩⟩⟩⟩⟩⟩⟩⟩⟩⟩⟩⟩⟩,⟨⟨aJs,⟨aJz,⟨aI9,⟨aJh,⟨WQ,⟨WS,⟨UU,⟨aaP,⟨aaR,⟨WU,⟨Du,⟨Dr,⟨UX,⟨WX,trivial⟩⟩⟩⟩⟩⟩⟩⟩⟩⟩⟩⟩⟩⟩,⟨⟨YK,⟨aJi,⟨aaT,⟨aJA,⟨WY,⟨WZ,⟨YM,⟨aaV,⟨L7,⟨U0,⟨U2,⟨YO,⟨U4,⟨U6,⟨U8,trivial⟩⟩⟩⟩⟩⟩⟩⟩⟩⟩⟩⟩⟩⟩⟩,⟨⟨YQ,⟨aaX,⟨W3,⟨YS,⟨W7,⟨Mv,⟨Mk,⟨YV,⟨Mw,⟨aa1,trivial⟩⟩⟩⟩⟩⟩⟩⟩⟩⟩,⟨⟨W9,⟨anE,⟨anm,⟨Xc,⟨Xe,⟨Ml,⟨Xg,trivial⟩⟩⟩⟩⟩⟩⟩,⟨⟨Xk,⟨aJj,⟨aa5,⟨aa7,⟨aI',⟨aJk,⟨Vi,⟨Vk,⟨Y3,⟨aa9,⟨Xo,trivial⟩⟩⟩⟩⟩⟩⟩⟩⟩⟩⟩,⟨⟨Xs,⟨abi,⟨Xy,⟨Y',⟨abl,trivial⟩⟩⟩⟩⟩,⟨⟨aJa,⟨Vw,⟨aJt,trivial⟩⟩⟩,⟨⟨qw,⟨Zm,⟨XE,⟨abw,⟨Zo,⟨Zq,⟨Zs,trivial⟩⟩⟩⟩⟩⟩⟩,⟨⟨Zu,⟨Dw,⟨aJb,trivial⟩⟩⟩,⟨⟨VO,⟨Zw,⟨abB,⟨XV,⟨aJl,⟨aJu,⟨Hb,⟨aJc,trivial⟩⟩⟩⟩⟩⟩⟩⟩,⟨⟨aJm,⟨aJv,⟨aJB,⟨XZ,trivial⟩⟩⟩⟩,⟨⟨VW,⟨Mz,⟨aJC,⟨aJd,⟨aJn,⟨ZG,trivial⟩⟩⟩⟩⟩⟩,trivial⟩⟩⟩⟩⟩⟩⟩⟩⟩⟩⟩⟩⟩⟩⟩⟩⟩⟩⟩
def anQ:List D:=[.str [],.str [105,110,116],.str [116,101,120,116]]
def MD:List D:=[.str [33,61],.str [60,61],.str [62,61],.str [46,46],.str [40],.str [41],.str [44],.str [59],.str [58],.str [124],.str [43],.str [45],.str [42],.str [47],.str [37],.str [61],.str [60],.str [62]]
def ME:List D:=[.int .i64 0,.int .i64 0,.int .i64 1,.int .i64 1,.int .i64 2,.int .i64 2,.int .i64 1,.int .i64 2,.int .i64 1,.int .i64 1]
def Dy:List D:=[.int .i64 0,.int .i64 59,.int .i64 0,.int .i64 23,.int .i64 1,.int .i64 31,.int .i64 1,.int .i64 12,.int .i64 0,.int .i64 6]
def aJE:List D:=[.ix]
def anS:List D:=[.ix]
def anT:List D:=[.lM [.str [33,61],.str [37],.str [42],.str [43],.str [45],.str [47],.str [60],.str [60,61],.str [61],.str [62],.str [62,61],.str [97,110,100],.str [111,114]] [.int .i64 4,.int .i64 6,.int .i64 6,.int .i64 5,.int .i64 5,.int .i64 6,.int .i64 4,.int .i64 4,.int .i64 4,.int .i64 4,.int .i64 4,.int .i64 2,.int .i64 1]]
def anU:List D:=G3
def aJF:List D:=[.int .i64 0,.int .i64 31,.int .i64 28,.int .i64 31,.int .i64 30,.int .i64 31,.int .i64 30,.int .i64 31,.int .i64 31,.int .i64 30,.int .i64 31,.int .i64 30,.int .i64 31]
def gl:Nat->List D:=λg=>match g with|0=>anQ|1=>MD|2=>ME|3=>Dy|5=>aJE|6=>anS|7=>anT|8=>anU|11=>aJF|_=>[]
def tab:Nat->Option aW:=TC abW
def ext:Nat->List ah->aY->Out:=Lw 98 5 31 33 23 120 108
theorem anV:yh Tryz.prog gl 98 5 31 33 23 120 108 6 5 where
 pg:=⟨Tryz.f31,Tryz.func31,az5,az5⟩
 cs:=⟨Tryz.f33,Tryz.func33,az5,az5⟩
 C8:=⟨Tryz.f23,Tryz.func23,az5,az5⟩
 ci:=⟨Tryz.f120,Tryz.func120,az5,az5⟩
 ca:=⟨Tryz.f108,Tryz.func108,az5,az5⟩
 w:=λ_ _ _ _ s _ h b=>al2 {Tryz.MA with} Tryz.MB s h b
 s:=λ_ _ _ _ _ h=>al9 Tryz.anI Tryz.anJ h
 j:=⟨λa c l w=>Any.strings_Join_none Tryz.MA Tryz.MB a c l w,λu o c x l w f d p n q=>Any.strings_Join Tryz.MA Tryz.MB u o c x l w f d p n q⟩
 i:=⟨λi r w=>Any.strconv_Itoa_small {Tryz.abZ with} i r w⟩
 a:=⟨λs h v g w=>(Any.strconv_Atoi_ok Tryz.MC s h v g w).mono (by
  rintro e m ⟨rfl,h|⟨t,h⟩⟩
  .exact⟨rfl,by rw[h];exact RowKit.Below.refl _ _⟩
  .exact⟨rfl,by rw[h];exact Lib.bytesWorld_below _ _ _⟩)⟩
 GF:=⟨rfl,rfl,λs b g aO w f d=>(Any.strconv_Atoi_range Tryz.MC s b g aO w f d).mono (by
  rintro e m ⟨N,rfl,_,_,k⟩;exact⟨_,_,rfl,k⟩),λs b g aO w f d=>(Any.strconv_Atoi_syntax Tryz.MC s b g aO w f d).mono (by
  rintro e m ⟨N,rfl,_,_,k⟩;exact⟨_,_,rfl,k⟩)⟩
theorem anW:G4 Tryz.prog gl 120 8:={
 name:=az5
 tab:=rfl
 all:=λn b c w a=>(Any.strconv_Itoa Tryz.abZ n b c w a).mono (by
  rintro e f ⟨rfl,k,d,rfl⟩;exact⟨rfl,Lib.below_grow _ _ (aCw _) _ _⟩)}
theorem anX:LZ Tryz.prog 273:=λs c w=>Any.stringslite_IndexByte Tryz.anO s c w
theorem anY:gq Tryz.prog 273:=⟨Tryz.f273,Tryz.func273,az5,az5⟩
abbrev aL:=bD a1 gl
theorem exts:yh a1 gl 98 5 31 33 23 120 108 6 5:=qv▸anV
theorem an3:G4 a1 gl 120 8:=qv▸anW
theorem an4:LZ a1 273:=qv▸anX
theorem an5:gq a1 273:=qv▸anY
theorem MF:hP a1 gl ext:=amo exts
theorem uZ:wk a1 tab:=alV anH
theorem globals{W:World}(h:laidMetH Tryz.prog Rows.checkManyRow.laid W):K6 W gl:=by
 obtain⟨b,a,_⟩:laidMet Tryz.prog Rows.checkManyRow.laid W:=h;intro g;match g with
 |0=>exact wu (n:=6) a (aC8 (i:=9) (by rfl)) (show Tryz.prog.globalNamed _=some 0 by kernel_rfl) (show(Tryz.prog.globals[0]?).map (·.type)=some (Tryz.prog.globals[0]!).type by kernel_rfl) az5
 |1=>exact wu (n:=6) a (aC8 (i:=8) (by rfl)) (show Tryz.prog.globalNamed _=some 1 by kernel_rfl) (show(Tryz.prog.globals[1]?).map (·.type)=some (Tryz.prog.globals[1]!).type by kernel_rfl) az5
 |2=>exact wu (n:=6) a (aC8 (i:=10) (by rfl)) (show Tryz.prog.globalNamed _=some 2 by kernel_rfl) (show(Tryz.prog.globals[2]?).map (·.type)=some (Tryz.prog.globals[2]!).type by kernel_rfl) az5
 |3=>exact wu (n:=6) a (aC8 (i:=7) (by rfl)) (show Tryz.prog.globalNamed _=some 3 by kernel_rfl) (show(Tryz.prog.globals[3]?).map (·.type)=some (Tryz.prog.globals[3]!).type by kernel_rfl) az5
 |4=>exact⟨[],λj v hv=>aAH,.nil,.inl rfl⟩
 |5=>exact wu (n:=6) a (aC8 (i:=5) (by rfl)) (show Tryz.prog.globalNamed _=some 5 by kernel_rfl) (show(Tryz.prog.globals[5]?).map (·.type)=some (Tryz.prog.globals[5]!).type by kernel_rfl) az5
 |6=>exact wu (n:=6) a (aC8 (i:=4) (by rfl)) (show Tryz.prog.globalNamed _=some 6 by kernel_rfl) (show(Tryz.prog.globals[6]?).map (·.type)=some (Tryz.prog.globals[6]!).type by kernel_rfl) az5
 |7=>exact wu (n:=6) a (aC8 (i:=11) (by rfl)) (show Tryz.prog.globalNamed _=some 7 by kernel_rfl) (show(Tryz.prog.globals[7]?).map (·.type)=some (Tryz.prog.globals[7]!).type by kernel_rfl) az5
 |8=>exact wu (n:=6) a (aC8 (i:=2) (by rfl)) (show Tryz.prog.globalNamed _=some 8 by kernel_rfl) (show(Tryz.prog.globals[8]?).map (·.type)=some (Tryz.prog.globals[8]!).type by kernel_rfl) az5
 |9=>exact⟨[],λj v hv=>aAH,.nil,.inl rfl⟩
 |10=>exact⟨[],λj v hv=>aAH,.nil,.inl rfl⟩
 |11=>exact wu (n:=6) a (aC8 (i:=6) (by rfl)) (show Tryz.prog.globalNamed _=some 11 by kernel_rfl) (show(Tryz.prog.globals[11]?).map (·.type)=some (Tryz.prog.globals[11]!).type by kernel_rfl) az5
 |12=>exact⟨[],λj v hv=>aAH,.nil,.inl rfl⟩
 |13=>exact⟨[],λj v hv=>aAH,.nil,.inl rfl⟩
 |n+14=>exact⟨[],λj v hv=>aAH,.nil,.inl rfl⟩
end Go.Proofs.YtdfonihgkhbpcaaGreatDoor
