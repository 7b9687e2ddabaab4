/-
  A part of the proof: PLs.
-/
import Derived.KernelRfl
import Derived.Test.YtidicphjlgjajaaGreatDoorG
import Derived.Test.YtidicphjlgjajaaGreatDoorPa
set_option linter.all false

namespace Go.AI
open Go
def oW(op:Int):ByteArray:=if op=4 then bs [38]else if op=5 then bs [111,114]else if op=6 then bs [61,62]else if op=7 then bs [60,61,62]else if op=10 then bs [61]else if op=11 then bs [47,61]else if op=12 then bs [60]else if op=13 then bs [60,61]else if op=14 then bs [62]else if op=15 then bs [62,61]else if op=16 then bs [105,110]else if op=17 then bs [110,111,116,105,110]else if op=18 then bs [115,117,98]else if op=22 then bs [43]else if op=23 then bs [45]else if op=24 then bs [42]else if op=25 then bs [47]else if op=26 then bs [109,111,100]else if op=27 then bs [124,45,62]else if op=30 then bs [46,46]else if op=31 then bs [92,47]else if op=32 then bs [47,92]else if op=33 then bs [92]else if op=34 then bs [62,60]else if op=35 then bs [60,43]else if op=36 then bs [59]else if op=37 then bs [60,124]else if op=38 then bs [60,60,124]else if op=39 then bs [124,62]else if op=40 then bs [124,62,62]else if op=41 then bs [60,45,62]else if op=42 then bs [43,45,62]else if op=43 then bs [45,45,62]else if op=44 then bs [62,45,62]else if op=45 then bs [62,45,62,62]else bs []
theorem BZ(n:Nat):bD (n+40) 1=some (bs []):=by kernel_rfl
theorem sr1(n:Nat):bH (n+10) 1=some (bs []):=by kernel_rfl
theorem xb(n:Nat):bD (n+40) 2=some (bs []):=by kernel_rfl
theorem sr2(n:Nat):bH (n+10) 2=some (bs []):=by kernel_rfl
theorem sp3(n:Nat):bD (n+40) 3=some (bs []):=by kernel_rfl
theorem sr3(n:Nat):bH (n+10) 3=some (bs []):=by kernel_rfl
theorem sp4(n:Nat):bD (n+40) 4=some (bs [38]):=by kernel_rfl
theorem sr4(n:Nat):bH (n+10) 4=some (bs [38]):=by kernel_rfl
theorem sp5(n:Nat):bD (n+40) 5=some (bs [111,114]):=by kernel_rfl
theorem sr5(n:Nat):bH (n+10) 5=some (bs [111,114]):=by kernel_rfl
theorem sp6(n:Nat):bD (n+40) 6=some (bs [61,62]):=by kernel_rfl
theorem sr6(n:Nat):bH (n+10) 6=some (bs [61,62]):=by kernel_rfl
theorem sp7(n:Nat):bD (n+40) 7=some (bs [60,61,62]):=by kernel_rfl
theorem sr7(n:Nat):bH (n+10) 7=some (bs [60,61,62]):=by kernel_rfl
theorem sp8(n:Nat):bD (n+40) 8=some (bs []):=by kernel_rfl
theorem sr8(n:Nat):bH (n+10) 8=some (bs []):=by kernel_rfl
theorem sp9(n:Nat):bD (n+40) 9=some (bs []):=by kernel_rfl
theorem sr9(n:Nat):bH (n+10) 9=some (bs []):=by kernel_rfl
theorem Yu(n:Nat):bD (n+40) 10=some (bs [61]):=by kernel_rfl
theorem Yv(n:Nat):bH (n+10) 10=some (bs [61]):=by kernel_rfl
theorem Yw(n:Nat):bD (n+40) 11=some (bs [47,61]):=by kernel_rfl
theorem Yx(n:Nat):bH (n+10) 11=some (bs [47,61]):=by kernel_rfl
theorem Yy(n:Nat):bD (n+40) 12=some (bs [60]):=by kernel_rfl
theorem Yz(n:Nat):bH (n+10) 12=some (bs [60]):=by kernel_rfl
theorem YA(n:Nat):bD (n+40) 13=some (bs [60,61]):=by kernel_rfl
theorem YB(n:Nat):bH (n+10) 13=some (bs [60,61]):=by kernel_rfl
theorem YC(n:Nat):bD (n+40) 14=some (bs [62]):=by kernel_rfl
theorem YD(n:Nat):bH (n+10) 14=some (bs [62]):=by kernel_rfl
theorem YE(n:Nat):bD (n+40) 15=some (bs [62,61]):=by kernel_rfl
theorem YF(n:Nat):bH (n+10) 15=some (bs [62,61]):=by kernel_rfl
theorem YG(n:Nat):bD (n+40) 16=some (bs [105,110]):=by kernel_rfl
theorem YH(n:Nat):bH (n+10) 16=some (bs [105,110]):=by kernel_rfl
theorem YI(n:Nat):bD (n+40) 17=some (bs [110,111,116,105,110]):=by kernel_rfl
theorem YJ(n:Nat):bH (n+10) 17=some (bs [110,111,116,105,110]):=by kernel_rfl
theorem YK(n:Nat):bD (n+40) 18=some (bs [115,117,98]):=by kernel_rfl
theorem YL(n:Nat):bH (n+10) 18=some (bs [115,117,98]):=by kernel_rfl
theorem YM(n:Nat):bD (n+40) 19=some (bs []):=by kernel_rfl
theorem YN(n:Nat):bH (n+10) 19=some (bs []):=by kernel_rfl
theorem YO(n:Nat):bD (n+40) 20=some (bs []):=by kernel_rfl
theorem YP(n:Nat):bH (n+10) 20=some (bs []):=by kernel_rfl
theorem YQ(n:Nat):bD (n+40) 21=some (bs []):=by kernel_rfl
theorem YR(n:Nat):bH (n+10) 21=some (bs []):=by kernel_rfl
theorem YS(n:Nat):bD (n+40) 22=some (bs [43]):=by kernel_rfl
theorem YT(n:Nat):bH (n+10) 22=some (bs [43]):=by kernel_rfl
theorem YU(n:Nat):bD (n+40) 23=some (bs [45]):=by kernel_rfl
theorem YV(n:Nat):bH (n+10) 23=some (bs [45]):=by kernel_rfl
theorem YW(n:Nat):bD (n+40) 24=some (bs [42]):=by kernel_rfl
theorem YX(n:Nat):bH (n+10) 24=some (bs [42]):=by kernel_rfl
theorem YY(n:Nat):bD (n+40) 25=some (bs [47]):=by kernel_rfl
theorem YZ(n:Nat):bH (n+10) 25=some (bs [47]):=by kernel_rfl
theorem Y0(n:Nat):bD (n+40) 26=some (bs [109,111,100]):=by kernel_rfl
theorem Y1(n:Nat):bH (n+10) 26=some (bs [109,111,100]):=by kernel_rfl
theorem Y2(n:Nat):bD (n+40) 27=some (bs [124,45,62]):=by kernel_rfl
theorem Y3(n:Nat):bH (n+10) 27=some (bs [124,45,62]):=by kernel_rfl
theorem Y4(n:Nat):bD (n+40) 28=some (bs []):=by kernel_rfl
theorem Y5(n:Nat):bH (n+10) 28=some (bs []):=by kernel_rfl
theorem Y6(n:Nat):bD (n+40) 29=some (bs []):=by kernel_rfl
theorem Y7(n:Nat):bH (n+10) 29=some (bs []):=by kernel_rfl
theorem Y8(n:Nat):bD (n+40) 30=some (bs [46,46]):=by kernel_rfl
theorem Y9(n:Nat):bH (n+10) 30=some (bs [46,46]):=by kernel_rfl
theorem Za(n:Nat):bD (n+40) 31=some (bs [92,47]):=by kernel_rfl
theorem Zb(n:Nat):bH (n+10) 31=some (bs [92,47]):=by kernel_rfl
theorem Zc(n:Nat):bD (n+40) 32=some (bs [47,92]):=by kernel_rfl
theorem Zd(n:Nat):bH (n+10) 32=some (bs [47,92]):=by kernel_rfl
theorem Ze(n:Nat):bD (n+40) 33=some (bs [92]):=by kernel_rfl
theorem Zf(n:Nat):bH (n+10) 33=some (bs [92]):=by kernel_rfl
theorem Zg(n:Nat):bD (n+40) 34=some (bs [62,60]):=by kernel_rfl
theorem Zh(n:Nat):bH (n+10) 34=some (bs [62,60]):=by kernel_rfl
theorem Zi(n:Nat):bD (n+40) 35=some (bs [60,43]):=by kernel_rfl
theorem Zj(n:Nat):bH (n+10) 35=some (bs [60,43]):=by kernel_rfl
theorem Zk(n:Nat):bD (n+40) 36=some (bs [59]):=by kernel_rfl
theorem Zl(n:Nat):bH (n+10) 36=some (bs [59]):=by kernel_rfl
theorem Zm(n:Nat):bD (n+40) 37=some (bs [60,124]):=by kernel_rfl
theorem Zn(n:Nat):bH (n+10) 37=some (bs [60,124]):=by kernel_rfl
theorem Zo(n:Nat):bD (n+40) 38=some (bs [60,60,124]):=by kernel_rfl
theorem Zp(n:Nat):bH (n+10) 38=some (bs [60,60,124]):=by kernel_rfl
theorem Zq(n:Nat):bD (n+40) 39=some (bs [124,62]):=by kernel_rfl
theorem Zs(n:Nat):bH (n+10) 39=some (bs [124,62]):=by kernel_rfl
theorem Zt(n:Nat):bD (n+40) 40=some (bs [124,62,62]):=by kernel_rfl
theorem Zu(n:Nat):bH (n+10) 40=some (bs [124,62,62]):=by kernel_rfl
theorem Zw(n:Nat):bD (n+40) 41=some (bs [60,45,62]):=by kernel_rfl
theorem Zx(n:Nat):bH (n+10) 41=some (bs [60,45,62]):=by kernel_rfl
theorem Zy(n:Nat):bD (n+40) 42=some (bs [43,45,62]):=by kernel_rfl
theorem Zz(n:Nat):bH (n+10) 42=some (bs [43,45,62]):=by kernel_rfl
theorem ZA(n:Nat):bD (n+40) 43=some (bs [45,45,62]):=by kernel_rfl
theorem ZB(n:Nat):bH (n+10) 43=some (bs [45,45,62]):=by kernel_rfl
theorem ZC(n:Nat):bD (n+40) 44=some (bs [62,45,62]):=by kernel_rfl
theorem ZD(n:Nat):bH (n+10) 44=some (bs [62,45,62]):=by kernel_rfl
theorem ZE(n:Nat):bD (n+40) 45=some (bs [62,45,62,62]):=by kernel_rfl
theorem ZF(n:Nat):bH (n+10) 45=some (bs [62,45,62,62]):=by kernel_rfl
theorem ZG(n:Nat):bD (n+40) 46=some (bs []):=by kernel_rfl
theorem ZH(n:Nat):bH (n+10) 46=some (bs []):=by kernel_rfl
theorem ZI(n:Nat):bD (n+40) 47=some (bs []):=by kernel_rfl
theorem ZJ(n:Nat):bH (n+10) 47=some (bs []):=by kernel_rfl
theorem ZK(n:Nat):bD (n+40) 48=some (bs []):=by kernel_rfl
theorem ZL(n:Nat):bH (n+10) 48=some (bs []):=by kernel_rfl
theorem ZM(n:Nat):bD (n+40) 49=some (bs []):=by kernel_rfl
theorem ZN(n:Nat):bH (n+10) 49=some (bs []):=by kernel_rfl
theorem ZO(n:Nat):bD (n+40) 50=some (bs []):=by kernel_rfl
theorem ZP(n:Nat):bH (n+10) 50=some (bs []):=by kernel_rfl
theorem ZQ(n:Nat):bD (n+40) 51=some (bs []):=by kernel_rfl
theorem ZR(n:Nat):bH (n+10) 51=some (bs []):=by kernel_rfl
theorem ZS(n:Nat):bD (n+40) 52=some (bs []):=by kernel_rfl
theorem ZT(n:Nat):bH (n+10) 52=some (bs []):=by kernel_rfl
theorem ZU(n:Nat):bD (n+40) 53=some (bs []):=by kernel_rfl
theorem ZV(n:Nat):bH (n+10) 53=some (bs []):=by kernel_rfl
theorem ZW(n:Nat):bD (n+40) 54=some (bs []):=by kernel_rfl
theorem ZX(n:Nat):bH (n+10) 54=some (bs []):=by kernel_rfl
theorem ZY(n:Nat):bD (n+40) 55=some (bs []):=by kernel_rfl
theorem ZZ(n:Nat):bH (n+10) 55=some (bs []):=by kernel_rfl
theorem Z0(n:Nat):bD (n+40) 56=some (bs []):=by kernel_rfl
theorem Z1(n:Nat):bH (n+10) 56=some (bs []):=by kernel_rfl
theorem ops{op:Int}(h:1<=op)(h':op<=56):op=1\/op=2\/op=3\/op=4\/op=5\/op=6\/op=7\/op=8\/op=9\/op=10\/op=11\/op=12\/op=13\/op=14\/op=15\/op=16\/op=17\/op=18\/op=19\/op=20\/op=21\/op=22\/op=23\/op=24\/op=25\/op=26\/op=27\/op=28\/op=29\/op=30\/op=31\/op=32\/op=33\/op=34\/op=35\/op=36\/op=37\/op=38\/op=39\/op=40\/op=41\/op=42\/op=43\/op=44\/op=45\/op=46\/op=47\/op=48\/op=49\/op=50\/op=51\/op=52\/op=53\/op=54\/op=55\/op=56:=by omega
theorem Er{op:Int}(h:1<=op)(h':op<=56):Ev (λn=>bD n op) (oW op):=by
 rcases ops h h' with rfl|rfl|rfl|rfl|rfl|rfl|rfl|rfl|rfl|rfl|rfl|rfl|rfl|rfl|rfl|rfl|rfl|rfl|rfl|rfl|rfl|rfl|rfl|rfl|rfl|rfl|rfl|rfl|rfl|rfl|rfl|rfl|rfl|rfl|rfl|rfl|rfl|rfl|rfl|rfl|rfl|rfl|rfl|rfl|rfl|rfl|rfl|rfl|rfl|rfl|rfl|rfl|rfl|rfl|rfl|rfl
 .exact .const 40 BZ
 .exact .const 40 xb
 .exact .const 40 sp3
 .exact .const 40 sp4
 .exact .const 40 sp5
 .exact .const 40 sp6
 .exact .const 40 sp7
 .exact .const 40 sp8
 .exact .const 40 sp9
 .exact .const 40 Yu
 .exact .const 40 Yw
 .exact .const 40 Yy
 .exact .const 40 YA
 .exact .const 40 YC
 .exact .const 40 YE
 .exact .const 40 YG
 .exact .const 40 YI
 .exact .const 40 YK
 .exact .const 40 YM
 .exact .const 40 YO
 .exact .const 40 YQ
 .exact .const 40 YS
 .exact .const 40 YU
 .exact .const 40 YW
 .exact .const 40 YY
 .exact .const 40 Y0
 .exact .const 40 Y2
 .exact .const 40 Y4
 .exact .const 40 Y6
 .exact .const 40 Y8
 .exact .const 40 Za
 .exact .const 40 Zc
 .exact .const 40 Ze
 .exact .const 40 Zg
 .exact .const 40 Zi
 .exact .const 40 Zk
 .exact .const 40 Zm
 .exact .const 40 Zo
 .exact .const 40 Zq
 .exact .const 40 Zt
 .exact .const 40 Zw
 .exact .const 40 Zy
 .exact .const 40 ZA
 .exact .const 40 ZC
 .exact .const 40 ZE
 .exact .const 40 ZG
 .exact .const 40 ZI
 .exact .const 40 ZK
 .exact .const 40 ZM
 .exact .const 40 ZO
 .exact .const 40 ZQ
 .exact .const 40 ZS
 .exact .const 40 ZU
 .exact .const 40 ZW
 .exact .const 40 ZY
 .exact .const 40 Z0
theorem LA{op:Int}(h:1<=op)(h':op<=56):Ev (λn=>bH n op) (oW op):=by
 rcases ops h h' with rfl|rfl|rfl|rfl|rfl|rfl|rfl|rfl|rfl|rfl|rfl|rfl|rfl|rfl|rfl|rfl|rfl|rfl|rfl|rfl|rfl|rfl|rfl|rfl|rfl|rfl|rfl|rfl|rfl|rfl|rfl|rfl|rfl|rfl|rfl|rfl|rfl|rfl|rfl|rfl|rfl|rfl|rfl|rfl|rfl|rfl|rfl|rfl|rfl|rfl|rfl|rfl|rfl|rfl|rfl|rfl
 .exact .const 10 sr1
 .exact .const 10 sr2
 .exact .const 10 sr3
 .exact .const 10 sr4
 .exact .const 10 sr5
 .exact .const 10 sr6
 .exact .const 10 sr7
 .exact .const 10 sr8
 .exact .const 10 sr9
 .exact .const 10 Yv
 .exact .const 10 Yx
 .exact .const 10 Yz
 .exact .const 10 YB
 .exact .const 10 YD
 .exact .const 10 YF
 .exact .const 10 YH
 .exact .const 10 YJ
 .exact .const 10 YL
 .exact .const 10 YN
 .exact .const 10 YP
 .exact .const 10 YR
 .exact .const 10 YT
 .exact .const 10 YV
 .exact .const 10 YX
 .exact .const 10 YZ
 .exact .const 10 Y1
 .exact .const 10 Y3
 .exact .const 10 Y5
 .exact .const 10 Y7
 .exact .const 10 Y9
 .exact .const 10 Zb
 .exact .const 10 Zd
 .exact .const 10 Zf
 .exact .const 10 Zh
 .exact .const 10 Zj
 .exact .const 10 Zl
 .exact .const 10 Zn
 .exact .const 10 Zp
 .exact .const 10 Zs
 .exact .const 10 Zu
 .exact .const 10 Zx
 .exact .const 10 Zz
 .exact .const 10 ZB
 .exact .const 10 ZD
 .exact .const 10 ZF
 .exact .const 10 ZH
 .exact .const 10 ZJ
 .exact .const 10 ZL
 .exact .const 10 ZN
 .exact .const 10 ZP
 .exact .const 10 ZR
 .exact .const 10 ZT
 .exact .const 10 ZV
 .exact .const 10 ZX
 .exact .const 10 ZZ
 .exact .const 10 Z1
end Go.AI
