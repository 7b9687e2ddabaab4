/- A part of the proof. -/
import Derived.Test.YtkdhoflcgphcjaaGreatDoorGd
set_option linter.all false

section
namespace Go.AI
open Go Go.Proofs
set_option maxRecDepth 100000
noncomputable section
theorem eF6{a0 c}(n):F6 (n+1) a0 c=AY n a0 c a0 (a0.length:Int) 0 [] [] []:=by kernel_rfl
theorem abO{a0}(n):B1 (n+1) a0=vU n a0 (a0.length:Int) 0 []:=by kernel_rfl
theorem XE{a0 j i c}(n):zY (n+1) a0 j i c=aa (decide (c<i)) (ab a0 c λo=>(ab j c λm=>(aa (!ax (gS o 0) (gS m 0)) (some false) (zY n a0 j i (IntKind.i64.wrap (c+1)))))) (some true):=by kernel_rfl
theorem abP{a0 c}(n):PH (n+1) a0 c=z7 n a0 c (IntKind.i64.wrap ((a0.size:Int)-1)):=by kernel_rfl
theorem XF{a0 q p o m a5 i a7 a8 c j}(n):Nf (n+1) a0 q p o m a5 i a7 a8 c j=aa (!q) (fits (i.length+([[.sc (.string c.1)]]:List (List AV)).length) 16 (ny n a0 p o m a5 (i++[[.sc (.string c.1)]]) a7 a8)) (ask (mr n j c.2) λu=>(aa (!u) (fits (a7.length+([[.sc (.string c.1)]]:List (List AV)).length) 16 (ny n a0 p o m a5 i (a7++[[.sc (.string c.1)]]) a8)) (ny n a0 p o m a5 i a7 a8))):=by kernel_rfl
theorem abQ{a0 c}(n):G5 (n+1) a0 c=some (ax a0.1 c):=by kernel_rfl
theorem Gz{a0 c}(n):nU (n+1) a0 c=aa ((a0.1.length:Int)!=(c.1.length:Int)) (some false) (aa ((a0.2.length:Int)!=(c.2.length:Int)) (some false) (vW n 0 a0 c)):=by kernel_rfl
theorem wS{a0 c}(n):G7 (n+1) a0 c=aa ((a0.length:Int)!=(c.length:Int)) (some false) (Ac n c a0 (a0.length:Int) 0):=by kernel_rfl
theorem XG{a0 c}(n):Aa (n+1) a0 c=aa (decide (a0<(c.2.2.1.length:Int))) (ab c.2.2.1 a0 λm=>(ask (sm n (c.1,c.2.1) (bt m 0)) λi=>(aa ((i:Int)!=0) (some i) (Aa n (IntKind.i64.wrap (a0+1)) c)))) (ask (sm n (c.1,c.2.1) c.2.2.2) λj=>(some j)):=by kernel_rfl
theorem Er{a0 j i c}(n):Ac (n+1) a0 j i c=aa (decide (c<i)) (ab j c λo=>(ab a0 c λm=>(ask (G9 n ((gS o 0),(gD o 1)) ((gS m 0),(gD m 1))) λp=>(aa (!p) (some false) (Ac n a0 j i (IntKind.i64.wrap (c+1))))))) (some true):=by kernel_rfl
theorem abR{a0 i}(n):sm (n+1) a0 i=ask (FQ n a0 i) λc=>(aa (c.2.2.2.2==0) (aa (c.1 !=2) (some 7) (some c.2.2.2.2)) (some c.2.2.2.2)):=by kernel_rfl
theorem Zp{a0}(n):pa (n+1) a0=aa (ax a0 (bs [])) (some false) (aa (decide ((a0.size:Int)>16)) (some false) (ig a0 0 λb1=>(ask (A4 n b1) λi=>(aa (!i) (some false) (ask (FT n a0) λc=>(aa c (some false) (vm n a0 (a0.size:Int) 0))))))):=by kernel_rfl
theorem OO{a0 c}(n):B7 (n+1) a0 c=aa (ax a0.1 c.1) (ask (N9 n a0.2 c.2) λi=>(some i)) (some false):=by kernel_rfl
theorem Zq{a0}(n):FP (n+1) a0=ask (F4 n a0.1) λc=>(aa ((c:Int)==(-2)) (some false) (aa ((c:Int)==(-1)) (aa ((a0.2.2.2.2.2.2.length:Int)==0) (some false) (aa (decide ((c:Int)>=0)) (aa ((a0.2.2.2.2.2.2.length:Int)!=c) (some false) (ri n a0)) (ri n a0))) (aa (decide ((c:Int)>=0)) (aa ((a0.2.2.2.2.2.2.length:Int)!=c) (some false) (ri n a0)) (ri n a0)))):=by kernel_rfl
theorem Zr{a0}(n):pf (n+1) a0=aa (a0==8) (some true) (aa (a0==9) (some true) (aa (a0==55) (some true) (some (a0==56)))):=by kernel_rfl
theorem DW{a0 i c}(n):vm (n+1) a0 i c=aa (decide (c<i)) (ig a0 c λb1=>(ask (Gb n b1) λj=>(aa (!j) (some false) (vm n a0 i (IntKind.i64.wrap (c+1)))))) (some true):=by kernel_rfl
theorem abS{a0}(n):Hc (n+1) a0=ask (sn n a0) λc=>(some (!c)):=by kernel_rfl
theorem V4{a0 q j p i}(n):jg (n+1) a0 q j p i=ask (FZ n a0 j i) λc=>(aa (c.2.2.2.1 !=0) (ask (N8 n c.2.2.2.2.2.2) λo=>(some (0,(bs []),[],o,c.2.2.2.1))) (ask (wD n (ae c)) λm=>(some (aC m ([],0))))):=by kernel_rfl
theorem Zs{a0}(n):A6 (n+1) a0=aa (decide (a0>=97)) (aa (decide (a0<=122)) (some true) (aa (decide (a0>=65)) (some (decide (a0<=90))) (some false))) (aa (decide (a0>=65)) (some (decide (a0<=90))) (some false)):=by kernel_rfl
theorem Zt{a0 c}(n):rR (n+1) a0 c=ask (Be n c) λi=>(zf n i 0 a0):=by kernel_rfl
theorem Um{a0}(n):u3 (n+1) a0=aa (a0.1==19) (aa (decide (a0.2.2.1<0)) (some false) (aa (decide (a0.2.2.1>1000000000)) (some false) (aa (a0.1 !=19) (aa (a0.2.2.1 !=0) (some false) (sV n a0)) (sV n a0)))) (aa (a0.1 !=19) (aa (a0.2.2.1 !=0) (some false) (sV n a0)) (sV n a0)):=by kernel_rfl
theorem Zu{a0}(n):Gb (n+1) a0=ask (A4 n a0) λi=>(aa i (some true) (ask (Gd n a0) λc=>(aa c (some true) (some (a0==95))))):=by kernel_rfl
theorem Ls{a0 o m j i}(n):zb (n+1) a0 o m j i=aa (decide (m<o)) (ab a0 m λc=>(fits (i.length+([[.sc (.string (gS c 0))]]:List (List AV)).length) 16 (fits (((i++[[.sc (.string (gS c 0))]]):List (List AV)).length+(gD c 1).length) 16 (zb n a0 o (IntKind.i64.wrap (m+1)) j ((i++[[.sc (.string (gS c 0))]])++(gD c 1)))))) (zi n j.2 (j.2.length:Int) 0 i):=by kernel_rfl
theorem V5{a0 j i c}(n):ze (n+1) a0 j i c=aa (decide (c<i)) (ab a0 c λo=>(ab j c λm=>(aa (!ax (gS o 0) (gS m 0)) (some false) (ze n a0 j i (IntKind.i64.wrap (c+1)))))) (some true):=by kernel_rfl
theorem XH{a0 c i}(n):jR (n+1) a0 c i=aa (c.1 !=i.1) (some false) (aa (c.2.2.1 !=i.2.2.1) (some false) (ask (rP n (ae c.2.2.2) (ae i.2.2.2)) λj=>(aa (!j) (some false) (aa ((c.2.2.2.2.2.2.length:Int)!=(i.2.2.2.2.2.2.length:Int)) (some false) (aa (c.1==20) (aa (ra a0.1) (aa (ra a0.2) (aa (((eg a0.1 c.2.1):Int)==(eg a0.2 i.2.1)) (aa (decide (((eg a0.1 c.2.1):Int)>=0)) (some true) (some (ax c.2.1 i.2.1))) (some false)) none) none) (mO n (c.2.2.2.2.2.2.length:Int) 0 a0 c i)))))):=by kernel_rfl
theorem Zv{a0}(n):Oc (n+1) a0=aa (decide ((a0.size:Int)>1)) (ig a0 (IntKind.i64.wrap ((a0.size:Int)-1)) λb1=>(aa ((b1:Int)==39) (fH a0 0 (IntKind.i64.wrap ((a0.size:Int)-1)) λi=>(ask (pd n i) λc=>(some c))) (some false))) (some false):=by kernel_rfl
theorem V6{a0}(n):zh (n+1) a0=aa (a0==28) (some (-1)) (aa (decide (a0>=4)) (aa (decide (a0<=56)) (some 2) (some (-2))) (some (-2))):=by kernel_rfl
theorem Zw{a0 i m j}(n):Bf (n+1) a0 i m j=ask (Bg n i j) λc=>(aa (!c.1) (some (false,c.2)) (aa (a0.1==1) (qN n 0 c.2 a0 i) (aa (a0.1==2) (aa m (some (false,c.2)) (qN n 0 c.2 a0 i)) (aa (a0.1==3) (ask (pa n a0.2.1) λo=>(aa (!o) (some (false,c.2)) (qN n 0 c.2 a0 i))) (aa (a0.1==4) (qN n 2 c.2 a0 i) (aa (a0.1==5) (qN n 1 c.2 a0 i) (some (false,c.2)))))))):=by kernel_rfl
theorem Zx{a0 c}(n):Bg (n+1) a0 c=aa (decide (((IntKind.i64.wrap (c.1+1)):Int)<=c.2.1)) (some ((decide (a0<=c.2.2)),(IntKind.i64.wrap (c.1+1)),c.2)) (some (false,(IntKind.i64.wrap (c.1+1)),c.2)):=by kernel_rfl
theorem Zy{a0 i o m j}(n):wG (n+1) a0 i o m j=fits (j.length+([[.sc (.int .i64 i)]]:List (List AV)).length) 8 (ab a0.2.2.2.2.2.2 i λp=>(ask (zq n (bt p 0) o m (j++[[.sc (.int .i64 i)]])) λc=>(aa (c.2.2.2.1==0) (aa (decide (0<=(IntKind.i64.wrap ((c.2.2.2.2.2.2.length:Int)-1))/\(IntKind.i64.wrap ((c.2.2.2.2.2.2.length:Int)-1))<=(c.2.2.2.2.2.2.length:Int))) (some (PE c (c.2.2.2.2.2.2.take ((IntKind.i64.wrap ((c.2.2.2.2.2.2.length:Int)-1)):Int).toNat))) none) (some c)))):=by kernel_rfl
theorem Zz{a0 j i}(n):wH (n+1) a0 j i=ask (Ba n a0) λm=>(ask (Mf n m j i) λc=>(some ((!c.1),c.2))):=by kernel_rfl
theorem ZA{a0}(n):pg (n+1) a0=ab a0 0 λj=>(ask (Gk n (ah j 0)) λc=>(ab a0 1 λi=>(some (aC c ((gI i 0)==2))))):=by kernel_rfl
theorem V7{a0 m j i c}(n):vr (n+1) a0 m j i c=ask (zr n a0 c) λo=>(some (m,j,i,(!o))):=by kernel_rfl
theorem V8{a0}(n):oQ (n+1) a0=ab a0 0 λj=>(ask (jt n (ah j 0)) λc=>(aa (!c.2.2.2.2.2.2) (some (0,(bs []),[],false)) (ask (Om n (ae c) (ae c.2.2.2) a0) λi=>(some i)))):=by kernel_rfl
theorem V9{a0}(n):vw (n+1) a0=ab a0 0 λj=>(ask (jt n (ah j 0)) λc=>(aa (!c.2.2.2.2.2.2) (some (0,(bs []),[],false)) (ask (Ou n (ae c) (ae c.2.2.2) a0) λi=>(some i)))):=by kernel_rfl
theorem Wa{a0 c}(n):Md (n+1) a0 c=aa ((a0.length:Int)!=(c.length:Int)) (some false) (ye n c a0 (a0.length:Int) 0):=by kernel_rfl
theorem Lt{a0 j i c}(n):lW (n+1) a0 j i c=aa (decide (i<(c.2.2.length:Int))) (ab c.2.2 i λo=>(ask (Bc n (ah o 0) (IntKind.i64.wrap (a0+1)) j) λm=>(aa (decide ((m:Int)<0)) (some (-1)) (lW n a0 m (IntKind.i64.wrap (i+1)) c)))) (some j):=by kernel_rfl
theorem Lu{a0 c i}(n):zn (n+1) a0 c i=aa (decide (a0<(c.1.length:Int))) (ab c.1 a0 λj=>(fits (i.length+(gD j 1).length) 16 (zn n (IntKind.i64.wrap (a0+1)) c (i++(gD j 1))))) (zt n 0 c i):=by kernel_rfl
theorem Ap{a0 c}(n):lA (n+1) a0 c=aa (a0.1==19) (ask (lB n) λi=>(some (aC i true))) (aa (a0.1==21) (aa (a0.1==21) (oB n c (0,(bs [])) []) (oC n c a0.1 a0 (0,(bs [])) [])) (aa (a0.1==22) (aa (a0.1==22) (oB n c (0,(bs [])) []) (oC n c a0.1 a0 (0,(bs [])) [])) (aa (a0.1==23) (aa (a0.1==23) (oB n c (0,(bs [])) []) (oC n c a0.1 a0 (0,(bs [])) [])) (aa (a0.1==24) (aa (a0.1==24) (oB n c (0,(bs [])) []) (oC n c a0.1 a0 (0,(bs [])) [])) (aa (a0.1==25) (aa (a0.1==25) (oB n c (0,(bs [])) []) (oC n c a0.1 a0 (0,(bs [])) [])) (aa (a0.1==26) (oB n c (0,(bs [])) []) (oC n c a0.1 a0 (0,(bs [])) []))))))):=by kernel_rfl
theorem ZB{a0}(n):Gg (n+1) a0=aa (a0==1) (aa (a0==1) (some (0,true)) (rk n a0)) (aa (a0==2) (aa (a0==2) (some (0,true)) (rk n a0)) (aa (a0==19) (aa (a0==19) (some (0,true)) (rk n a0)) (aa (a0==20) (aa (a0==20) (some (0,true)) (rk n a0)) (aa (a0==29) (some (0,true)) (rk n a0))))):=by kernel_rfl
theorem Wb{a0 c}(n):zp (n+1) a0 c=aa (a0 !=(-1)) (aa ((c.2.2.2.2.2.2.length:Int)!=a0) (some false) (rj n c)) (rj n c):=by kernel_rfl
theorem Wc{a0 j i}(n):Mf (n+1) a0 j i=ask (Mi n a0 j i) λc=>(some ((decide (c.1>=0)),c.2)):=by kernel_rfl
theorem Np{a0}(n):Gl (n+1) a0=some a0:=by kernel_rfl
theorem ZC{a0 c}(n):Gm (n+1) a0 c=ask (rU n a0 c) λj=>(ask (jK n j) λi=>(some i)):=by kernel_rfl
theorem ZD{a0 c j}(n):Ov (n+1) a0 c j=ask (rU n c a0) λi=>(some (aC i true)):=by kernel_rfl
theorem SO{a0 o m j c a5 i}(n):uR (n+1) a0 o m j c a5 i=ab c.2.2.2.2.2.2 a0 λu=>(ab a5.2.2.2.2.2.2 a0 λq=>(ask (jR n i (bt u 0) (bt q 0)) λp=>(aa (!p) (some false) (mO n o (IntKind.i64.wrap (m+1)) j c a5)))):=by kernel_rfl
theorem ZE{a0 c}(n):Gr (n+1) a0 c=zx n c 0 a0:=by kernel_rfl
theorem wb{a0 c}(n):iV (n+1) a0 c=ab c 0 λi=>(aa (a0==37) (zz n a0 c (0,(bs [])) (0,(bs [])) (ah i 0) [] []) (aa (a0==38) (zz n a0 c (0,(bs [])) (0,(bs [])) (ah i 0) [] []) (ask (tS n (ah i 0)) λD=>(aa (!D) (some (0,(bs []),[],false)) (aa (a0==35) (ab c 1 λG=>(ask (ei n (ah i 0) (ah G 0)) λx4=>(some (aC (ah i 0) x4)))) (aa (a0==36) (ab c 1 λF=>(ask (tS n (ah F 0)) λC=>(aa (!C) (some (0,(bs []),[],false)) (ask (lD n (ah i 0)) λz=>(ab c 1 λE=>(ask (lE n (ah E 0)) λw=>(ask (ei n z w) λq=>(aa (!q) (some (0,(bs []),[],false)) (ask (lE n (ah i 0)) λp=>(ab c 1 λu=>(ask (lD n (ah u 0)) λo=>(ask (pq n p o) λm=>(ask (eT n m) λj=>(some (aC j true))))))))))))))) (aa (a0==37) (aa (a0==37) (sZ n c (0,(bs [])) (ah i 0) []) (s0 n c a0 (0,(bs [])) (0,(bs [])) (ah i 0) [] [])) (aa (a0==38) (sZ n c (0,(bs [])) (ah i 0) []) (s0 n c a0 (0,(bs [])) (0,(bs [])) (ah i 0) [] []))))))))):=by kernel_rfl
theorem Dw{a0 c m j i}(n):yG (n+1) a0 c m j i=aa (c==46) (ab a0 0 λq=>(ask (eT n (ah q 0)) λo=>(ab a0 0 λp=>(ask (jr n (ah p 0)) λx4=>(some (aC o x4)))))) (aa (c==31) (aa (c==31) (u6 n a0 j i) (u7 n a0 c m j i)) (aa (c==32) (aa (c==32) (u6 n a0 j i) (u7 n a0 c m j i)) (aa (c==33) (u6 n a0 j i) (u7 n a0 c m j i)))):=by kernel_rfl
theorem Un{a0}(n):qP (n+1) a0=aa (a0==28) (some ((-1),true)) (aa (decide (a0>=1)) (aa (decide (a0<=56)) (some (2,true)) (some (0,false))) (some (0,false))):=by kernel_rfl
theorem ZF(n):Bl (n+1)=some (1,(bs []),[]):=by kernel_rfl
theorem Uo{a0 i w u}(n):yI (n+1) a0 i w u=aa (i==18) (ask (lC n) λc=>(ab a0 0 λq=>(ask (jr n (ah q 0)) λm=>(aa m (ab a0 0 λp=>(ab a0 1 λo=>(ask (ei n (ah p 0) (ah o 0)) λj=>(some (aC c j))))) (some (aC c false)))))) (some (0,(bs []),[],false)):=by kernel_rfl
theorem yn{a0 c j i}(n):DT (n+1) a0 c j i=aa (c==10) (aa (c==10) (yJ n a0 j i) (DS n a0 c j i)) (aa (c==11) (yJ n a0 j i) (DS n a0 c j i)):=by kernel_rfl
theorem ZG{a0}(n):lE (n+1) a0=ab a0.2.2 0 λi=>(ab (gD i 2) 0 λc=>(some (ah c 0))):=by kernel_rfl
theorem Jl{a0 o c m j}(n):yh (n+1) a0 o c m j=aa (decide (c<o)) (ab a0 c λp=>(ask (OB n (ah p 0) m j) λi=>(aa i.1 (some (c,i.2)) (yh n a0 o (IntKind.i64.wrap (c+1)) i.2.1 i.2.2)))) (some ((-1),m,j)):=by kernel_rfl
theorem We{a0 c}(n):Ml (n+1) a0 c=yj n a0 (a0.length:Int) 0 c:=by kernel_rfl
theorem ZH{a0 c}(n):Gv (n+1) a0 c=some (a0.1 !=c):=by kernel_rfl
end
end Go.AI
end

section
namespace Go.AI
open Go Go.Proofs
set_option maxRecDepth 100000
noncomputable section
theorem PM{a0}(n):F7 (n+1) a0=ask (B2 n a0 47) λc=>(aa (decide ((c:Int)<0)) (some (bs [])) (fH a0 (IntKind.i64.wrap (c+1)) (a0.size:Int) λi=>(some i))):=by kernel_rfl
theorem Nq{a0 o m j i a5 c a7 a8 q}(n):AX (n+1) a0 o m j i a5 c a7 a8 q=aa (decide (a5<i)) (ab j a5 λp=>(et m (gS p 0) (λu=>(FK n a0 o m true j i a5 c a7 a8 q (nX p 0))) (FK n a0 o m false j i a5 c a7 a8 q (nX p 0)))) (AZ n o a0 (a0.length:Int) 0 c a7 a8 []):=by kernel_rfl
theorem Mr{a0 j i c}(n):vU (n+1) a0 j i c=aa (decide (i<j)) (ab a0 i λm=>(et c (gS m 0) (λo=>(vU n a0 j (IntKind.i64.wrap (i+1)) c)) (vU n a0 j (IntKind.i64.wrap (i+1)) (a6 c (gS m 0) (Ho (uA m 1)))))) (some c):=by kernel_rfl
theorem XI{a0 j i c}(n):zZ (n+1) a0 j i c=aa (decide (c<i)) (ab a0 c λo=>(ask (G5 n (nX o 0) j) λm=>(aa m (some c) (zZ n a0 j i (IntKind.i64.wrap (c+1)))))) (some (-1)):=by kernel_rfl
theorem Up{a0 D C z w a5 i a7 a8 c u q p o m j}(n):Lh (n+1) a0 D C z w a5 i a7 a8 c u q p o m j=aa (!D) (fits (i.length+([[.sc (.string c.1)]]:List (List AV)).length) 16 (ny n a0 C z w a5 (i++[[.sc (.string c.1)]]) a7 a8)) (ask (mr n (q,p,o,(tr5 u (m,j))) c.2) λE=>(aa (!E) (fits (a7.length+([[.sc (.string c.1)]]:List (List AV)).length) 16 (ny n a0 C z w a5 i (a7++[[.sc (.string c.1)]]) a8)) (ny n a0 C z w a5 i a7 a8))):=by kernel_rfl
theorem abT{a0}(n):B3 (n+1) a0=ask (xh n a0) λc=>(ask (sj n (a0.1,a0.2.1)) λj=>(aa (!j) (some 1) (ask (PI n c) λi=>(aa i (some 1) (aa (decide ((a0.2.2.1.length:Int)>200)) (some 5) (z8 n c (c.length:Int) 0 a0)))))):=by kernel_rfl
theorem GA{a0 c}(n):uh (n+1) a0 c=ask (pE n a0) λm=>(aa m (ask (pE n c) λj=>(aa j (ask (FM n a0 c) λi=>(some i)) (some false))) (some false)):=by kernel_rfl
theorem OP{a0 c}(n):G8 (n+1) a0 c=aa ((a0.length:Int)!=(c.length:Int)) (some false) (tE n c a0 (a0.length:Int) 0):=by kernel_rfl
theorem Ms{a0 c i}(n):vW (n+1) a0 c i=aa (decide (a0<(c.1.length:Int))) (ab c.1 a0 λm=>(ab i.1 a0 λj=>(ask (FN n ((gS m 0),(gD m 1)) ((gS j 0),(gD j 1))) λo=>(aa (!o) (some false) (vW n (IntKind.i64.wrap (a0+1)) c i))))) (rB n 0 c i):=by kernel_rfl
theorem Mt{a0 j i c}(n):tE (n+1) a0 j i c=aa (decide (c<i)) (ab j c λp=>(ab a0 c λo=>(ask (B7 n (l5 p 0) (l5 o 0)) λm=>(aa (!m) (some false) (tE n a0 j i (IntKind.i64.wrap (c+1))))))) (some true):=by kernel_rfl
theorem Nr{a0 c}(n):FN (n+1) a0 c=aa (ax a0.1 c.1) (ask (FR n a0.2 c.2) λi=>(some i)) (some false):=by kernel_rfl
theorem Mu{a0 o m j i a5 c}(n):Af (n+1) a0 o m j i a5 c=aa (decide (a5<i)) (ab j a5 λq=>(ask (pa n (gS q 0)) λp=>(aa (!p) (some false) (Af n a0 o m j i (IntKind.i64.wrap (a5+1)) c)))) (Ab n a0 o (IntKind.i64.wrap (m+1)) c):=by kernel_rfl
theorem abU{a0}(n):Ha (n+1) a0=ask (Ng n a0) λc=>(some (!c)):=by kernel_rfl
theorem Lv{a0 j i c}(n):y7 (n+1) a0 j i c=aa (decide (i<(c.2.2.2.2.2.2.length:Int))) (ab c.2.2.2.2.2.2 i λo=>(ask (A1 n (bt o 0) (IntKind.i64.wrap (a0+1)) j) λm=>(aa (decide ((m:Int)<0)) (some (-1)) (y7 n a0 m (IntKind.i64.wrap (i+1)) c)))) (some j):=by kernel_rfl
theorem ZI{a0 c}(n):A3 (n+1) a0 c=fits (([]:List (List AV)).length+a0.length) 16 (fits ((([]++a0):List (List AV)).length+([[.sc (.string c)]]:List (List AV)).length) 16 (some (([]++a0)++[[.sc (.string c)]]))):=by kernel_rfl
theorem ZJ{a0}(n):FU (n+1) a0=ask (A9 n a0 (bs [39])) λi=>(ask (pa n i) λc=>(some c)):=by kernel_rfl
theorem abV{a0}(n):sn (n+1) a0=ask (B8 n a0 1 (0,2000,64)) λc=>(some c.1):=by kernel_rfl
theorem Ns{a0 c}(n):F0 (n+1) a0 c=aa ((a0.length:Int)!=(c.length:Int)) (some false) (ze n a0 c (a0.length:Int) 0):=by kernel_rfl
theorem ZK{a0}(n):F1 (n+1) a0=ask (Bb n a0 [[.sc (.string (bs [116,114,117,101]))],[.sc (.string (bs [102,97,108,115,101]))],[.sc (.string (bs [110,111,116]))],[.sc (.string (bs [111,114]))],[.sc (.string (bs [102,111,114,97,108,108]))],[.sc (.string (bs [101,120,105,115,116,115]))],[.sc (.string (bs [105,110]))],[.sc (.string (bs [110,111,116,105,110]))],[.sc (.string (bs [115,117,98]))],[.sc (.string (bs [109,111,100]))],[.sc (.string (bs [102,117,110]))],[.sc (.string (bs [99,97,114,100]))],[.sc (.string (bs [109,105,110]))],[.sc (.string (bs [109,97,120]))],[.sc (.string (bs [100,111,109]))],[.sc (.string (bs [114,97,110]))],[.sc (.string (bs [80,79,87]))],[.sc (.string (bs [105,110,116]))],[.sc (.string (bs [98,111,111,108]))],[.sc (.string (bs [115,101,116]))],[.sc (.string (bs [112,97,105,114]))]]) λc=>(some c):=by kernel_rfl
theorem ZL{a0}(n):F2 (n+1) a0=zg n 0 a0 []:=by kernel_rfl
theorem Wf{a0}(n):ri (n+1) a0=aa (a0.1==20) (ask (A7 n a0.2.1) λj=>(aa (!j) (some false) (u3 n a0))) (ask (pf n a0.1) λi=>(aa i (ask (pd n a0.2.1) λc=>(aa (!c) (some false) (u3 n a0))) (aa (!ax a0.2.1 (bs [])) (some false) (u3 n a0)))):=by kernel_rfl
theorem ZM{a0 c}(n):A9 (n+1) a0 c=ask (Oe n a0 c) λi=>(some i):=by kernel_rfl
theorem Lw{a0 j c i}(n):zd (n+1) a0 j c i=aa (decide (c<j)) (ab a0 c λm=>(et i (gS m 0) (λo=>(aa (gB o 0) (some false) (Ek n (gS m 0) a0 j c i))) (Ek n (gS m 0) a0 j c i))) (some true):=by kernel_rfl
theorem ZN{a0 c}(n):j0 (n+1) a0 c=aa (a0.1==c.1) (aa (ax a0.2.1 c.2.1) (ask (Md n a0.2.2 c.2.2) λi=>(some i)) (some false)) (some false):=by kernel_rfl
theorem Dx{a0 c i j m a5}(n):jH (n+1) a0 c i j m a5=aa (decide (c<a0)) (ask (tQ n i.1) λq=>(aa q (aa (c==1) (ask (pF n m) λp=>(fits (p.length+([[.sc (.string i.2.1)]]:List (List AV)).length) 16 (ask (pF n a5) λo=>(fits (o.length+([[.sc (.string j.2.1)]]:List (List AV)).length) 16 (vo n c a0 c i j m a5 (p++[[.sc (.string i.2.1)]]) (o++[[.sc (.string j.2.1)]])))))) (uP n c a0 c i j m a5)) (uP n c a0 c i j m a5))) (some true):=by kernel_rfl
theorem ZO{a0 c i}(n):Bc (n+1) a0 c i=aa (decide (c>6)) (some (-1)) (aa (decide (((IntKind.i64.wrap (i+1)):Int)>16)) (some (-1)) (aa (a0.1==2) (aa (decide (c>1)) (some (-1)) (zl n c (IntKind.i64.wrap (i+1)) a0)) (zl n c (IntKind.i64.wrap (i+1)) a0))):=by kernel_rfl
theorem ZP{a0 c}(n):Od (n+1) a0 c=kP n [] c (-1) a0 (0,(bs [])) []:=by kernel_rfl
theorem ZQ{a0 i}(n):Of (n+1) a0 i=ask (Oi n a0 i) λc=>(some ((decide (c.1>=0)),c.2)):=by kernel_rfl
theorem ZR{a0}(n):Ge (n+1) a0=ask (Gg n a0.1) λc=>(aa (!c.2) (aa (!c.2) (some false) (rj n a0)) (aa (c.1==(-1)) (aa ((a0.2.2.2.2.2.2.length:Int)==0) (aa ((a0.2.2.2.2.2.2.length:Int)==0) (some false) (rj n a0)) (zp n c.1 a0)) (zp n c.1 a0))):=by kernel_rfl
theorem ZS{a0}(n):Bh (n+1) a0=aa (a0==8) (some true) (aa (a0==9) (some true) (aa (a0==55) (some true) (some (a0==56)))):=by kernel_rfl
theorem yN{a0}(n):jK (n+1) a0=some (5,(bs []),[(aR a0)]):=by kernel_rfl
theorem ZT{a0}(n):pj (n+1) a0=ask (wP n) λi=>(ask (rT n a0) λc=>(some (aC i c))):=by kernel_rfl
theorem Wg{a0}(n):kK (n+1) a0=ab a0 0 λj=>(ask (Gl n (ah j 0)) λc=>(ab a0 0 λi=>(aa ((gI i 0)==5) (ask (rT n a0) λx4=>(some (aC c x4))) (some (aC c false))))):=by kernel_rfl
theorem Wh{a0}(n):gH (n+1) a0=ab a0 0 λm=>(ask (fK n (ah m 0)) λc=>(ab a0 1 λj=>(ask (fK n (ah j 0)) λx4=>(aa (!c.2.2.2) (some (0,(bs []),[],false)) (aa (!x4.2.2.2) (some (0,(bs []),[],false)) (ask (Gm n (ae c) (ae x4)) λi=>(some (aC i true)))))))):=by kernel_rfl
theorem Wi{a0}(n):vx (n+1) a0=ab a0 0 λj=>(ask (jt n (ah j 0)) λc=>(aa (!c.2.2.2.2.2.2) (some (0,(bs []),[],false)) (ask (Ov n (ae c) (ae c.2.2.2) a0) λi=>(some i)))):=by kernel_rfl
theorem SP{a0 i c}(n):yd (n+1) a0 i c=aa (decide (c<i)) (ab a0 c λm=>(ask (Gn n (bt m 0)) λj=>(aa j (some c) (yd n a0 i (IntKind.i64.wrap (c+1)))))) (some (-1)):=by kernel_rfl
theorem Uq{a0 i j c}(n):qM (n+1) a0 i j c=aa ((c.2.2.length:Int)!=j) (some (-1)) (aa (c.1==3) (ask (pd n c.2.1) λm=>(aa (!m) (some (-1)) (aa (c.1 !=3) (aa (!ax c.2.1 (bs [])) (some (-1)) (lW n a0 i 0 c)) (lW n a0 i 0 c)))) (aa (c.1 !=3) (aa (!ax c.2.1 (bs [])) (some (-1)) (lW n a0 i 0 c)) (lW n a0 i 0 c))):=by kernel_rfl
theorem Lx{a0 i j c q a5}(n):kP (n+1) a0 i j c q a5=aa (decide (j>=0)) (ab a0 j λF=>(aa (ax (gS F 0) i) (ab a0 j λE=>(some (aC (ah E 1) true))) (kP n a0 i (IntKind.i64.wrap (j-1)) c q a5))) (ask (Gp n c i) λp=>(aa (decide ((p:Int)>=0)) (ab c.2 p λD=>(some (aC (ah D 1) true))) (ask (Bj n c i) λz=>(aa (decide ((z:Int)>=0)) (ask (Gq n i) λw=>(ask (eT n w) λu=>(some (aC u true)))) (ask (Gr n c i) λo=>(aa (decide (o.1>=0)) (ab c.1 o.1 λC=>(ask (Gq n (gS C 0)) λm=>(some (aC m true)))) (some (0,(bs []),[],false)))))))):=by kernel_rfl
theorem ZU{a0 c}(n):Gf (n+1) a0 c=aa (decide ((a0.size:Int)>=(c.size:Int))) (fH a0 (IntKind.i64.wrap ((a0.size:Int)-(c.size:Int))) (a0.size:Int) λi=>(some (ax i c))) (some false):=by kernel_rfl
theorem ZV{a0}(n):Gi (n+1) a0=ask (A9 n a0 (bs [39])) λi=>(ask (pa n i) λc=>(some c)):=by kernel_rfl
theorem Wj{a0 i c}(n):Me (n+1) a0 i c=yg n a0 (a0.length:Int) 0 i c:=by kernel_rfl
theorem Wm{a0 c}(n):zr (n+1) a0 c=ask (Mj n a0 c) λi=>(some (decide ((i:Int)>=0))):=by kernel_rfl
theorem E6{a0 c}(n):rU (n+1) a0 c=ask (Bk n a0 c) λj=>(ask (jK n j) λi=>(some i)):=by kernel_rfl
theorem ZW{a0}(n):On (n+1) a0=ask (jK n a0) λi=>(ask (jK n i) λc=>(some (aC c true))):=by kernel_rfl
theorem ZX{a0 m j}(n):Ox (n+1) a0 m j=ab j 1 λo=>(ask (fK n (ah o 0)) λi=>(ask (jK n m) λc=>(aa i.2.2.2 (ask (j0 n (ae i) a0) λx4=>(some (aC c x4))) (some (aC c false))))):=by kernel_rfl
theorem Wn{a0 c i}(n):zs (n+1) a0 c i=aa (decide (c<(i.1.length:Int))) (ab i.1 c λj=>(aa (ax (gS j 0) a0) (some c) (zs n a0 (IntKind.i64.wrap (c+1)) i))) (some (-1)):=by kernel_rfl
theorem Wo{a0 c i}(n):Mg (n+1) a0 c i=kP n c i (IntKind.i64.wrap ((c.length:Int)-1)) a0 (0,(bs [])) []:=by kernel_rfl
theorem Ur{a0 j E D}(n):mP (n+1) a0 j E D=ab a0 0 λC=>(ask (jr n (ah C 0)) λo=>(aa (!o) (some (0,(bs []),[],false)) (ab a0 1 λz=>(ask (jr n (ah z 0)) λx4=>(aa (!x4) (some (0,(bs []),[],false)) (ab a0 0 λw=>(ab (gD w 2) 0 λu=>(ab a0 1 λq=>(ab (gD q 2) 0 λp=>(ask (pq n (ah u 0) (ah p 0)) λm=>(ask (eT n m) λc=>(aa (j.1 !=34) (ask (eT n c) λi=>(some (aC i true))) (some (aC c true)))))))))))))):=by kernel_rfl
theorem Us{a0 o m}(n):oB (n+1) a0 o m=ask (lB n) λj=>(ask (lB n) λi=>(ask (rV n a0 i) λc=>(some (aC j c)))):=by kernel_rfl
theorem Wp{a0}(n):rk (n+1) a0=aa (a0==3) (aa (a0==3) (some (1,true)) (qP n a0)) (aa (a0==21) (aa (a0==21) (some (1,true)) (qP n a0)) (aa (decide (a0>=46)) (aa (decide (a0<=51)) (aa (decide (a0<=51)) (some (1,true)) (qP n a0)) (aa (a0==52) (some (1,true)) (qP n a0))) (aa (a0==52) (some (1,true)) (qP n a0)))):=by kernel_rfl
theorem Wq{a0 c i}(n):zw (n+1) a0 c i=aa (decide (c<(i.2.length:Int))) (ab i.2 c λj=>(aa (ax (gS j 0) a0) (some c) (zw n a0 (IntKind.i64.wrap (c+1)) i))) (some (-1)):=by kernel_rfl
theorem Ut{a0 o m}(n):sX (n+1) a0 o m=ask (lC n) λj=>(ask (lB n) λi=>(ask (rV n a0 i) λc=>(some (aC j c)))):=by kernel_rfl
theorem Uu{a0 o m}(n):qQ (n+1) a0 o m=ask (lC n) λj=>(ask (lC n) λi=>(ask (rV n a0 i) λc=>(some (aC j c)))):=by kernel_rfl
theorem Uv{a0 p c o}(n):yL (n+1) a0 p c o=ab a0 1 λm=>(ask (lD n c) λj=>(ask (eT n j) λi=>(ask (ei n (ah m 0) i) λx4=>(some (aC c x4))))):=by kernel_rfl
theorem ZY{a0 c}(n):Gt (n+1) a0 c=ask (rS n a0 c) λi=>(some (i,c)):=by kernel_rfl
theorem Ly{a0 c j i}(n):zA (n+1) a0 c j i=ab i.1 c λp=>(aa (decide (j<((gD p 1).length:Int))) (ab i.1 c λo=>(ab (gD o 1) j λm=>(aa (ax (gS m 0) a0) (some (c,j)) (zA n a0 c (IntKind.i64.wrap (j+1)) i)))) (zx n a0 (IntKind.i64.wrap (c+1)) i)):=by kernel_rfl
theorem Jm{a0 m c j}(n):yj (n+1) a0 m c j=aa (decide (c<m)) (ab a0 c λo=>(ask (OE n (ah o 0) j) λi=>(aa i.1 (some (c,i.2)) (yj n a0 m (IntKind.i64.wrap (c+1)) i.2)))) (some ((-1),j)):=by kernel_rfl
end
end Go.AI
end
