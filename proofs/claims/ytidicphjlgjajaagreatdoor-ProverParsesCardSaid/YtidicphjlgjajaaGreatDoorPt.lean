/-
  A part of the proof: PLt.
-/
import Derived.Test.YtidicphjlgjajaaGreatDoorPb
set_option linter.all false

namespace Go.AI
open Go
set_option linter.all false
theorem Ev.eq{β:Type}{F:Nat->Option β}{a r:β}(h:Ev F a)(e:a=r):Ev F r:=e▸h
theorem la.len:∀{ks:Rows}{ss:List ByteArray}{d:Nat},la ks ss d->ks.length<=d|_,_,_,.nil=>ak _|_,_,_,.cons t k=>by have:=la.len k;have:=t.sz;simp only[aN];omega
theorem LH{C:Nat}(ih:∀{op:Int}{nm:ByteArray}{N tk:Int}{tn:ByteArray}{ts ks:Rows}{c:Nat},VT op nm N tk tn ts ks c->c<=C->∃s,xc op nm N tk tn ts ks s c):∀(ks:Rows){c:Nat},pD ks c->c<=C->∃ss,la ks ss c|[],_,.nil,_=>⟨[],.nil⟩|_::rs,_,.cons v vs,h=>by obtain⟨ss,k⟩:=LH @ih rs vs (by omega);obtain⟨s,t⟩:=ih v (by omega);exact⟨s::ss,.cons t k⟩
theorem eV:∀(W:Nat){op:Int}{nm:ByteArray}{N tk:Int}{tn:ByteArray}{ts ks:Rows}{c:Nat},VT op nm N tk tn ts ks c->c<W->c<=2000->∃s,xc op nm N tk tn ts ks s c
 |0,_,_,_,_,_,_,_,_,_,h,_=>by omega
 |W+1,op,nm,N,tk,tn,ts,ks,_,.mk (c:=c) hn vs,hW,h2=>by
  have hr:=Hl hn.ar
  have B:=LH (C:=c) (λv h=>eV W v (by omega) (by omega)) ks vs (ak _)
  have w:op=1\/op=2\/op=19\/op=20\/op=29\/op=3\/op=21\/op=8\/op=9\/op=56\/op=55\/op=54\/op=53\/op=52\/op=28\/op=46\/op=47\/op=48\/op=49\/op=50\/op=51\/((4<=op/\op<=7)\/(10<=op/\op<=18)\/(22<=op/\op<=27)\/(30<=op/\op<=45)):=by omega
  rcases w with rfl|rfl|rfl|rfl|rfl|rfl|rfl|rfl|rfl|rfl|rfl|rfl|rfl|rfl|rfl|rfl|rfl|rfl|rfl|rfl|rfl|J
  .have hk:dt 1=bs [116,114,117,101]:=rfl;refine⟨bs [116,114,117,101],.step (λl=>fF l _ _ _ _ _ _ _) (.pos rfl (.ret _)),λf b hb=>fR (by decide) (by decide) rfl ?_ (λp1 p2=>absurd rfl p1) (λh=>?_),?_⟩;all_goals first|(simp only[hk,cr,ByteArray.append_assoc];done)|(simp only[hk,cr,ByteArray.append_assoc];rfl)|(simp only[hk,bj,ba,aN,List.length_nil]at*;omega)
  .have hk:dt 2=bs [102,97,108,115,101]:=rfl;refine⟨bs [102,97,108,115,101],.step (λl=>fF l _ _ _ _ _ _ _) (.neg rfl (.pos rfl (.ret _))),λf b hb=>fR (by decide) (by decide) rfl ?_ (λp1 p2=>absurd rfl p2) (λh=>?_),?_⟩;all_goals first|(simp only[hk,cr,ByteArray.append_assoc];done)|(simp only[hk,cr,ByteArray.append_assoc];rfl)|(simp only[hk,bj,ba,aN,List.length_nil]at*;omega)
  .have hk:dt 19=bs []:=rfl
   obtain⟨d1,d2,Q⟩:=P0 hn.num.1 hn.num.2
   refine⟨aY N,.step (λl=>fF l _ _ _ _ _ _ _) (.neg rfl (.neg rfl (.pos rfl (.ask d1 (.ret _))))),λf b hb=>fR (by decide) (by decide) rfl ?_ (λ_ _=>.step (λl=>gn l _ _ _ _ _ _ _ _ _ _) (.neg rfl (.neg rfl (.neg rfl (.neg rfl (.neg rfl (.step (λl=>jo l _ _ _ _ _ _ _ _ _ _) (.neg rfl (.neg rfl (.neg rfl (.neg rfl (.neg rfl (.neg rfl (.pos rfl (.pos Q (.ask (mm _ _ _ ?_) (.c7 ?_))))))))))))))))) (λh=>?_),?_⟩
   any_goals(exact absurd h (by decide))
   all_goals first|(simp only[hk,cr,ByteArray.append_assoc];done)|(simp only[hk,cr,ByteArray.append_assoc];rfl)|(simp only[hk,bj,ba,aN,List.length_nil]at*;omega)
  .have hk:dt 20=bs []:=rfl
   have hz:=hn.nm
   refine⟨nm,.step (λl=>fF l _ _ _ _ _ _ _) (.neg rfl (.neg rfl (.neg rfl (.pos rfl (.ret _))))),λf b hb=>fR (by decide) (by decide) rfl ?_ (λ_ _=>.step (λl=>gn l _ _ _ _ _ _ _ _ _ _) (.neg rfl (.neg rfl (.neg rfl (.neg rfl (.neg rfl (.step (λl=>jo l _ _ _ _ _ _ _ _ _ _) (.neg rfl (.neg rfl (.neg rfl (.neg rfl (.neg rfl (.neg rfl (.neg rfl (.pos rfl (.ask (mm _ _ _ ?_) (.c7 ?_))))))))))))))))) (λh=>?_),?_⟩
   any_goals(exact absurd h (by decide))
   all_goals first|(simp only[hk,cr,ByteArray.append_assoc];done)|(simp only[hk,cr,ByteArray.append_assoc];rfl)|(simp only[hk,bj,ba,aN,List.length_nil]at*;omega)
  .have hk:dt 29=bs []:=rfl
   obtain⟨S,vT,O⟩:=hn.ty rfl
   obtain⟨L,zT,q1,q2⟩:=zw _ vT (Nat.lt_succ_self _) O
   refine⟨bs [123,125,91]++L++bs [93],.step (λl=>fF l _ _ _ _ _ _ _) (.neg rfl (.neg rfl (.neg rfl (.neg rfl (.pos rfl (.ask q2 (.ai ?_ (.ai ?_ (.ret _))))))))),λf b hb=>fR (by decide) (by decide) rfl ?_ (λ_ _=>.step (λl=>gn l _ _ _ _ _ _ _ _ _ _) (.neg rfl (.neg rfl (.neg rfl (.neg rfl (.neg rfl (.step (λl=>jo l _ _ _ _ _ _ _ _ _ _) (.neg rfl (.neg rfl (.neg rfl (.neg rfl (.neg rfl (.pos rfl (.ask q1 (.ai ?_ (.ai ?_ (.ask (mm _ _ _ ?_) (.c7 ?_)))))))))))))))))) (λh=>?_),?_⟩
   any_goals(exact absurd h (by decide))
   all_goals first|(simp only[hk,cr,ByteArray.append_assoc];done)|(simp only[hk,cr,ByteArray.append_assoc];rfl)|(simp only[hk,bj,ba,aN,List.length_nil]at*;omega)
  .have hk:dt 3=bs []:=rfl
   have hl:ks.length=1:=by have:=hn.ar;unfold fj dw at this;simp at this;omega
   obtain⟨o,rfl,e⟩:=nU vs hl
   obtain⟨n,t0⟩:=eV W e (by omega) (by omega)
   obtain⟨j,g⟩:=t0.closed e.range.1 e.range.2 (by omega)
   have p:=t0.sz
   have q:=g.sz
   refine⟨bs [110,111,116,32]++j,.step (λl=>fF l _ _ _ _ _ _ _) (.neg rfl (.neg rfl (.neg rfl (.neg rfl (.neg rfl (.pos rfl (.ae (m:=0) rfl rfl (.ask g.sh (.ai ?_ (.ret _)))))))))),λf b hb=>fR (by decide) (by decide) rfl ?_ (λ_ _=>.step (λl=>gn l _ _ _ _ _ _ _ _ _ _) (.pos rfl (.ask (mm _ _ _ ?_) (.ae (m:=0) rfl rfl (.ask (g.wr _ _ ?_) (.c7 ?_)))))) (λh=>?_),?_⟩
   any_goals(exact absurd h (by decide))
   all_goals first|(simp only[hk,cr,ByteArray.append_assoc];done)|(simp only[hk,cr,ByteArray.append_assoc];rfl)|(simp only[hk,bj,ba,aN,List.length_nil]at*;omega)
  .have hk:dt 21=bs []:=rfl
   have hl:ks.length=1:=by have:=hn.ar;unfold fj dw at this;simp at this;omega
   obtain⟨o,rfl,e⟩:=nU vs hl
   obtain⟨n,t0⟩:=eV W e (by omega) (by omega)
   obtain⟨j,g⟩:=t0.closed e.range.1 e.range.2 (by omega)
   have p:=t0.sz
   have q:=g.sz
   refine⟨bs [45]++j,.step (λl=>fF l _ _ _ _ _ _ _) (.neg rfl (.neg rfl (.neg rfl (.neg rfl (.neg rfl (.neg rfl (.pos rfl (.ae (m:=0) rfl rfl (.ask g.sh (.ai ?_ (.ret _))))))))))),λf b hb=>fR (by decide) (by decide) rfl ?_ (λ_ _=>.step (λl=>gn l _ _ _ _ _ _ _ _ _ _) (.neg rfl (.pos rfl (.ask (fD (m:=45) rfl (by omega) _ _ ?_) (.ae (m:=0) rfl rfl (.ask (g.wr _ _ ?_) (.c7 ?_))))))) (λh=>?_),?_⟩
   any_goals(exact absurd h (by decide))
   all_goals first|(simp only[hk,cr,ByteArray.append_assoc];done)|(simp only[hk,cr,ByteArray.append_assoc];rfl)|(simp only[hk,bj,ba,aN,List.length_nil]at*;omega)
  .have hk:dt 8=bs [102,111,114,97,108,108,32]:=rfl
   have hz:=hn.nm
   have hl:ks.length=2:=by have:=hn.ar;unfold fj dw at this;simp at this;omega
   obtain⟨o,z,D,F,rfl,rfl,e,t⟩:=qW vs hl
   obtain⟨n,t0⟩:=eV W e (by omega) (by omega)
   obtain⟨u,t1⟩:=eV W t (by omega) (by omega)
   obtain⟨j,g⟩:=t0.closed e.range.1 e.range.2 (by omega)
   have p:=t0.sz
   have E:=t1.sz
   have q:=g.sz
   refine⟨bs [102,111,114,97,108,108,32]++nm++bs [32,105,110,32]++j++bs [32,46,32]++u,.step (λl=>fF l _ _ _ _ _ _ _) (.neg rfl (.neg rfl (.neg rfl (.neg rfl (.neg rfl (.neg rfl (.neg rfl (.pos rfl (.ai ?_ (.ai ?_ (.ae (m:=0) rfl rfl (.ask g.sh (.ai ?_ (.ai ?_ (.ae (m:=1) rfl rfl (.ask t1.sh (.ai ?_ (.ret _)))))))))))))))))),λf b hb=>fR (by decide) (by decide) rfl ?_ (λ_ _=>.step (λl=>gn l _ _ _ _ _ _ _ _ _ _) (.neg rfl (.neg rfl (.pos rfl (.pos rfl (.eq (DL g t1 true (b++dt 8) ?_) ?_)))))) (λh=>?_),?_⟩
   any_goals(exact absurd h (by decide))
   all_goals first|(simp only[hk,cr,ByteArray.append_assoc];done)|(simp only[hk,cr,ByteArray.append_assoc];rfl)|(simp only[hk,bj,ba,aN,List.length_nil]at*;omega)
  .have hk:dt 9=bs [101,120,105,115,116,115,32]:=rfl
   have hz:=hn.nm
   have hl:ks.length=2:=by have:=hn.ar;unfold fj dw at this;simp at this;omega
   obtain⟨o,z,D,F,rfl,rfl,e,t⟩:=qW vs hl
   obtain⟨n,t0⟩:=eV W e (by omega) (by omega)
   obtain⟨u,t1⟩:=eV W t (by omega) (by omega)
   obtain⟨j,g⟩:=t0.closed e.range.1 e.range.2 (by omega)
   have p:=t0.sz
   have E:=t1.sz
   have q:=g.sz
   refine⟨bs [101,120,105,115,116,115,32]++nm++bs [32,105,110,32]++j++bs [32,46,32]++u,.step (λl=>fF l _ _ _ _ _ _ _) (.neg rfl (.neg rfl (.neg rfl (.neg rfl (.neg rfl (.neg rfl (.neg rfl (.neg rfl (.pos rfl (.ai ?_ (.ai ?_ (.ae (m:=0) rfl rfl (.ask g.sh (.ai ?_ (.ai ?_ (.ae (m:=1) rfl rfl (.ask t1.sh (.ai ?_ (.ret _))))))))))))))))))),λf b hb=>fR (by decide) (by decide) rfl ?_ (λ_ _=>.step (λl=>gn l _ _ _ _ _ _ _ _ _ _) (.neg rfl (.neg rfl (.neg rfl (.pos rfl (.pos rfl (.eq (DL g t1 true (b++dt 9) ?_) ?_))))))) (λh=>?_),?_⟩
   any_goals(exact absurd h (by decide))
   all_goals first|(simp only[hk,cr,ByteArray.append_assoc];done)|(simp only[hk,cr,ByteArray.append_assoc];rfl)|(simp only[hk,bj,ba,aN,List.length_nil]at*;omega)
  .have hk:dt 56=bs [102,117,110,32]:=rfl
   have hz:=hn.nm
   have hl:ks.length=2:=by have:=hn.ar;unfold fj dw at this;simp at this;omega
   obtain⟨o,z,D,F,rfl,rfl,e,t⟩:=qW vs hl
   obtain⟨n,t0⟩:=eV W e (by omega) (by omega)
   obtain⟨u,t1⟩:=eV W t (by omega) (by omega)
   obtain⟨j,g⟩:=t0.closed e.range.1 e.range.2 (by omega)
   have p:=t0.sz
   have E:=t1.sz
   have q:=g.sz
   refine⟨bs [102,117,110,32]++nm++bs [32,105,110,32]++j++bs [32,46,32]++u,.step (λl=>fF l _ _ _ _ _ _ _) (.neg rfl (.neg rfl (.neg rfl (.neg rfl (.neg rfl (.neg rfl (.neg rfl (.neg rfl (.neg rfl (.pos rfl (.ai ?_ (.ai ?_ (.ae (m:=0) rfl rfl (.ask g.sh (.ai ?_ (.ai ?_ (.ae (m:=1) rfl rfl (.ask t1.sh (.ai ?_ (.ret _)))))))))))))))))))),λf b hb=>fR (by decide) (by decide) rfl ?_ (λ_ _=>.step (λl=>gn l _ _ _ _ _ _ _ _ _ _) (.neg rfl (.neg rfl (.neg rfl (.neg rfl (.pos rfl (.eq (DL g t1 true (b++dt 56) ?_) ?_))))))) (λh=>?_),?_⟩
   any_goals(exact absurd h (by decide))
   all_goals first|(simp only[hk,cr,ByteArray.append_assoc];done)|(simp only[hk,cr,ByteArray.append_assoc];rfl)|(simp only[hk,bj,ba,aN,List.length_nil]at*;omega)
  .have hk:dt 55=bs []:=rfl
   have hz:=hn.nm
   have hl:ks.length=2:=by have:=hn.ar;unfold fj dw at this;simp at this;omega
   obtain⟨o,z,D,F,rfl,rfl,e,t⟩:=qW vs hl
   obtain⟨n,t0⟩:=eV W e (by omega) (by omega)
   obtain⟨u,t1⟩:=eV W t (by omega) (by omega)
   obtain⟨j,g⟩:=t0.closed e.range.1 e.range.2 (by omega)
   have p:=t0.sz
   have E:=t1.sz
   have q:=g.sz
   refine⟨bs [123]++nm++bs [32,105,110,32]++j++bs [32,124,32]++u++bs [125],.step (λl=>fF l _ _ _ _ _ _ _) (.neg rfl (.neg rfl (.neg rfl (.neg rfl (.neg rfl (.neg rfl (.neg rfl (.neg rfl (.neg rfl (.neg rfl (.pos rfl (.ai ?_ (.ai ?_ (.ae (m:=0) rfl rfl (.ask g.sh (.ai ?_ (.ai ?_ (.ae (m:=1) rfl rfl (.ask t1.sh (.ai ?_ (.ai ?_ (.ret _)))))))))))))))))))))),λf b hb=>fR (by decide) (by decide) rfl ?_ (λ_ _=>.step (λl=>gn l _ _ _ _ _ _ _ _ _ _) (.neg rfl (.neg rfl (.neg rfl (.neg rfl (.neg rfl (.step (λl=>jo l _ _ _ _ _ _ _ _ _ _) (.pos rfl (.ask (fD (m:=123) rfl (by omega) _ _ ?_) (.ask (LG g _ _ ?_) (.ask (mm _ _ _ ?_) (.ae (m:=1) rfl rfl (.ask (t1.wr _ _ ?_) (.ask (fD (m:=125) rfl (by omega) _ _ ?_) (.c7 ?_))))))))))))))) (λh=>?_),?_⟩
   any_goals(exact absurd h (by decide))
   all_goals first|(simp only[hk,cr,ByteArray.append_assoc];done)|(simp only[hk,cr,ByteArray.append_assoc];rfl)|(simp only[hk,bj,ba,aN,List.length_nil]at*;omega)
  .have hk:dt 54=bs []:=rfl
   have hl:ks.length=2:=by have:=hn.ar;unfold fj dw at this;simp at this;omega
   obtain⟨o,z,D,F,rfl,rfl,e,t⟩:=qW vs hl
   obtain⟨n,t0⟩:=eV W e (by omega) (by omega)
   obtain⟨u,t1⟩:=eV W t (by omega) (by omega)
   obtain⟨j,g⟩:=t0.closed e.range.1 e.range.2 (by omega)
   have p:=t0.sz
   have E:=t1.sz
   have q:=g.sz
   refine⟨j++bs [40]++u++bs [41],.step (λl=>fF l _ _ _ _ _ _ _) (.neg rfl (.neg rfl (.neg rfl (.neg rfl (.neg rfl (.neg rfl (.neg rfl (.neg rfl (.neg rfl (.neg rfl (.neg rfl (.pos rfl (.ae (m:=0) rfl rfl (.ask g.sh (.ai ?_ (.ae (m:=1) rfl rfl (.ask t1.sh (.ai ?_ (.ai ?_ (.ret _)))))))))))))))))))),λf b hb=>fR (by decide) (by decide) rfl ?_ (λ_ _=>.step (λl=>gn l _ _ _ _ _ _ _ _ _ _) (.neg rfl (.neg rfl (.neg rfl (.neg rfl (.neg rfl (.step (λl=>jo l _ _ _ _ _ _ _ _ _ _) (.neg rfl (.pos rfl (.ask (MG g t1 (m:=40) (k:=41) rfl (by omega) rfl (by omega) _ _ ?_) (.c7 ?_))))))))))) (λh=>?_),?_⟩
   any_goals(exact absurd h (by decide))
   all_goals first|(simp only[hk,cr,ByteArray.append_assoc];done)|(simp only[hk,cr,ByteArray.append_assoc];rfl)|(simp only[hk,bj,ba,aN,List.length_nil]at*;omega)
  .have hk:dt 53=bs []:=rfl
   have hl:ks.length=2:=by have:=hn.ar;unfold fj dw at this;simp at this;omega
   obtain⟨o,z,D,F,rfl,rfl,e,t⟩:=qW vs hl
   obtain⟨n,t0⟩:=eV W e (by omega) (by omega)
   obtain⟨u,t1⟩:=eV W t (by omega) (by omega)
   obtain⟨j,g⟩:=t0.closed e.range.1 e.range.2 (by omega)
   have p:=t0.sz
   have E:=t1.sz
   have q:=g.sz
   refine⟨j++bs [91]++u++bs [93],.step (λl=>fF l _ _ _ _ _ _ _) (.neg rfl (.neg rfl (.neg rfl (.neg rfl (.neg rfl (.neg rfl (.neg rfl (.neg rfl (.neg rfl (.neg rfl (.neg rfl (.neg rfl (.pos rfl (.ae (m:=0) rfl rfl (.ask g.sh (.ai ?_ (.ae (m:=1) rfl rfl (.ask t1.sh (.ai ?_ (.ai ?_ (.ret _))))))))))))))))))))),λf b hb=>fR (by decide) (by decide) rfl ?_ (λ_ _=>.step (λl=>gn l _ _ _ _ _ _ _ _ _ _) (.neg rfl (.neg rfl (.neg rfl (.neg rfl (.neg rfl (.step (λl=>jo l _ _ _ _ _ _ _ _ _ _) (.neg rfl (.neg rfl (.pos rfl (.ask (MG g t1 (m:=91) (k:=93) rfl (by omega) rfl (by omega) _ _ ?_) (.c7 ?_)))))))))))) (λh=>?_),?_⟩
   any_goals(exact absurd h (by decide))
   all_goals first|(simp only[hk,cr,ByteArray.append_assoc];done)|(simp only[hk,cr,ByteArray.append_assoc];rfl)|(simp only[hk,bj,ba,aN,List.length_nil]at*;omega)
  .have hk:dt 52=bs []:=rfl
   have hl:ks.length=1:=by have:=hn.ar;unfold fj dw at this;simp at this;omega
   obtain⟨o,rfl,e⟩:=nU vs hl
   obtain⟨n,t0⟩:=eV W e (by omega) (by omega)
   obtain⟨j,g⟩:=t0.closed e.range.1 e.range.2 (by omega)
   have p:=t0.sz
   have q:=g.sz
   refine⟨j++bs [126],.step (λl=>fF l _ _ _ _ _ _ _) (.neg rfl (.neg rfl (.neg rfl (.neg rfl (.neg rfl (.neg rfl (.neg rfl (.neg rfl (.neg rfl (.neg rfl (.neg rfl (.neg rfl (.neg rfl (.pos rfl (.ae (m:=0) rfl rfl (.ask g.sh (.ai ?_ (.ret _)))))))))))))))))),λf b hb=>fR (by decide) (by decide) rfl ?_ (λ_ _=>.step (λl=>gn l _ _ _ _ _ _ _ _ _ _) (.neg rfl (.neg rfl (.neg rfl (.neg rfl (.neg rfl (.step (λl=>jo l _ _ _ _ _ _ _ _ _ _) (.neg rfl (.neg rfl (.neg rfl (.pos rfl (.ae (m:=0) rfl rfl (.ask (g.wr _ _ ?_) (.ask (fD (m:=126) rfl (by omega) _ _ ?_) (.c7 ?_))))))))))))))) (λh=>?_),?_⟩
   any_goals(exact absurd h (by decide))
   all_goals first|(simp only[hk,cr,ByteArray.append_assoc];done)|(simp only[hk,cr,ByteArray.append_assoc];rfl)|(simp only[hk,bj,ba,aN,List.length_nil]at*;omega)
  .have hk:dt 28=bs []:=rfl
   have hl:ks.length≠0:=by have:=hn.ar;simpa[fj,dw]using this
   obtain⟨R,M⟩:=B
   cases M with
   |nil=>simp at hl
   |@cons o rs n ss D d0 t0 G=>
   have hlen:=la.len G
   have p:=t0.sz
   have E:=I1 G
   refine⟨bs [123]++n++di ss++bs [125],.step (λl=>fF l _ _ _ _ _ _ _) (.neg rfl (.neg rfl (.neg rfl (.neg rfl (.neg rfl (.neg rfl (.neg rfl (.neg rfl (.neg rfl (.neg rfl (.neg rfl (.neg rfl (.neg rfl (.neg rfl (.pos rfl (.step (λl=>DA l _ _ _) (.pos (by simp<;>omega) (.neg rfl (.step (λl=>GP l _ _ _) (.ae (m:=0) rfl rfl (.ask t0.sh (.ai ?_ (LF (ks:=o::rs) (by simp<;>omega) (i:=1) (by simpa using G) (by omega) _ ?_))))))))))))))))))))))),λf b hb=>fR (by decide) (by decide) rfl ?_ (λ_ _=>.step (λl=>gn l _ _ _ _ _ _ _ _ _ _) (.neg rfl (.neg rfl (.neg rfl (.neg rfl (.neg rfl (.step (λl=>jo l _ _ _ _ _ _ _ _ _ _) (.neg rfl (.neg rfl (.neg rfl (.neg rfl (.pos rfl (.ask (fD (m:=123) rfl (by omega) _ _ ?_) (.ask (qx t0 G (by omega) _ _ ?_) (.ask (fD (m:=125) rfl (by omega) _ _ ?_) (.c7 ?_)))))))))))))))) (λh=>?_),?_⟩
   any_goals(exact absurd h (by decide))
   all_goals first|(simp only[hk,cr,ByteArray.append_assoc];done)|(simp only[hk,cr,ByteArray.append_assoc];rfl)|(simp only[hk,bj,ba,aN,List.length_nil]at*;omega)
  .have hk:dt 46=bs [80,79,87]:=rfl
   have hg:gS [AV.sc (.string (bs [80,79,87]))] 0=bs [80,79,87]:=rfl
   have hl:ks.length=1:=by have:=hn.ar;unfold fj dw at this;simp at this;omega
   obtain⟨o,rfl,e⟩:=nU vs hl
   obtain⟨n,t0⟩:=eV W e (by omega) (by omega)
   obtain⟨j,g⟩:=t0.closed e.range.1 e.range.2 (by omega)
   have p:=t0.sz
   have q:=g.sz
   refine⟨bs [80,79,87]++bs [40]++n++bs [41],.step (λl=>fF l _ _ _ _ _ _ _) (.neg rfl (.neg rfl (.neg rfl (.neg rfl (.neg rfl (.neg rfl (.neg rfl (.neg rfl (.neg rfl (.neg rfl (.neg rfl (.neg rfl (.neg rfl (.neg rfl (.neg rfl (.pos rfl (.pos rfl (.ae (m:=0) rfl rfl (.cL (m:=0) rfl (.ai ?_ (.ae (m:=0) rfl rfl (.ask t0.sh (.ai ?_ (.ai ?_ (.ret _))))))))))))))))))))))))),λf b hb=>fR (by decide) (by decide) rfl ?_ (λ_ _=>.step (λl=>gn l _ _ _ _ _ _ _ _ _ _) (.neg rfl (.neg rfl (.neg rfl (.neg rfl (.neg rfl (.step (λl=>jo l _ _ _ _ _ _ _ _ _ _) (.neg rfl (.neg rfl (.neg rfl (.neg rfl (.neg rfl (.neg rfl (.neg rfl (.neg rfl (.ask (fD (m:=40) rfl (by omega) _ _ ?_) (.ask (qx t0 .nil (by simp) _ _ ?_) (.ask (fD (m:=41) rfl (by omega) _ _ ?_) (.c7 ?_))))))))))))))))))) (λh=>?_),?_⟩
   any_goals(exact absurd h (by decide))
   all_goals first|(simp only[hk,hg,di,cr,ByteArray.append_assoc];done)|(simp only[hk,hg,di,cr,ByteArray.append_assoc];rfl)|(simp only[hk,di,hg,bj,ba,aN,List.length_nil]at*;omega)
  .have hk:dt 47=bs [99,97,114,100]:=rfl
   have hg:gS [AV.sc (.string (bs [99,97,114,100]))] 0=bs [99,97,114,100]:=rfl
   have hl:ks.length=1:=by have:=hn.ar;unfold fj dw at this;simp at this;omega
   obtain⟨o,rfl,e⟩:=nU vs hl
   obtain⟨n,t0⟩:=eV W e (by omega) (by omega)
   obtain⟨j,g⟩:=t0.closed e.range.1 e.range.2 (by omega)
   have p:=t0.sz
   have q:=g.sz
   refine⟨bs [99,97,114,100]++bs [40]++n++bs [41],.step (λl=>fF l _ _ _ _ _ _ _) (.neg rfl (.neg rfl (.neg rfl (.neg rfl (.neg rfl (.neg rfl (.neg rfl (.neg rfl (.neg rfl (.neg rfl (.neg rfl (.neg rfl (.neg rfl (.neg rfl (.neg rfl (.pos rfl (.pos rfl (.ae (m:=1) rfl rfl (.cL (m:=1) rfl (.ai ?_ (.ae (m:=0) rfl rfl (.ask t0.sh (.ai ?_ (.ai ?_ (.ret _))))))))))))))))))))))))),λf b hb=>fR (by decide) (by decide) rfl ?_ (λ_ _=>.step (λl=>gn l _ _ _ _ _ _ _ _ _ _) (.neg rfl (.neg rfl (.neg rfl (.neg rfl (.neg rfl (.step (λl=>jo l _ _ _ _ _ _ _ _ _ _) (.neg rfl (.neg rfl (.neg rfl (.neg rfl (.neg rfl (.neg rfl (.neg rfl (.neg rfl (.ask (fD (m:=40) rfl (by omega) _ _ ?_) (.ask (qx t0 .nil (by simp) _ _ ?_) (.ask (fD (m:=41) rfl (by omega) _ _ ?_) (.c7 ?_))))))))))))))))))) (λh=>?_),?_⟩
   any_goals(exact absurd h (by decide))
   all_goals first|(simp only[hk,hg,di,cr,ByteArray.append_assoc];done)|(simp only[hk,hg,di,cr,ByteArray.append_assoc];rfl)|(simp only[hk,di,hg,bj,ba,aN,List.length_nil]at*;omega)
  .have hk:dt 48=bs [109,105,110]:=rfl
   have hg:gS [AV.sc (.string (bs [109,105,110]))] 0=bs [109,105,110]:=rfl
   have hl:ks.length=1:=by have:=hn.ar;unfold fj dw at this;simp at this;omega
   obtain⟨o,rfl,e⟩:=nU vs hl
   obtain⟨n,t0⟩:=eV W e (by omega) (by omega)
   obtain⟨j,g⟩:=t0.closed e.range.1 e.range.2 (by omega)
   have p:=t0.sz
   have q:=g.sz
   refine⟨bs [109,105,110]++bs [40]++n++bs [41],.step (λl=>fF l _ _ _ _ _ _ _) (.neg rfl (.neg rfl (.neg rfl (.neg rfl (.neg rfl (.neg rfl (.neg rfl (.neg rfl (.neg rfl (.neg rfl (.neg rfl (.neg rfl (.neg rfl (.neg rfl (.neg rfl (.pos rfl (.pos rfl (.ae (m:=2) rfl rfl (.cL (m:=2) rfl (.ai ?_ (.ae (m:=0) rfl rfl (.ask t0.sh (.ai ?_ (.ai ?_ (.ret _))))))))))))))))))))))))),λf b hb=>fR (by decide) (by decide) rfl ?_ (λ_ _=>.step (λl=>gn l _ _ _ _ _ _ _ _ _ _) (.neg rfl (.neg rfl (.neg rfl (.neg rfl (.neg rfl (.step (λl=>jo l _ _ _ _ _ _ _ _ _ _) (.neg rfl (.neg rfl (.neg rfl (.neg rfl (.neg rfl (.neg rfl (.neg rfl (.neg rfl (.ask (fD (m:=40) rfl (by omega) _ _ ?_) (.ask (qx t0 .nil (by simp) _ _ ?_) (.ask (fD (m:=41) rfl (by omega) _ _ ?_) (.c7 ?_))))))))))))))))))) (λh=>?_),?_⟩
   any_goals(exact absurd h (by decide))
   all_goals first|(simp only[hk,hg,di,cr,ByteArray.append_assoc];done)|(simp only[hk,hg,di,cr,ByteArray.append_assoc];rfl)|(simp only[hk,di,hg,bj,ba,aN,List.length_nil]at*;omega)
  .have hk:dt 49=bs [109,97,120]:=rfl
   have hg:gS [AV.sc (.string (bs [109,97,120]))] 0=bs [109,97,120]:=rfl
   have hl:ks.length=1:=by have:=hn.ar;unfold fj dw at this;simp at this;omega
   obtain⟨o,rfl,e⟩:=nU vs hl
   obtain⟨n,t0⟩:=eV W e (by omega) (by omega)
   obtain⟨j,g⟩:=t0.closed e.range.1 e.range.2 (by omega)
   have p:=t0.sz
   have q:=g.sz
   refine⟨bs [109,97,120]++bs [40]++n++bs [41],.step (λl=>fF l _ _ _ _ _ _ _) (.neg rfl (.neg rfl (.neg rfl (.neg rfl (.neg rfl (.neg rfl (.neg rfl (.neg rfl (.neg rfl (.neg rfl (.neg rfl (.neg rfl (.neg rfl (.neg rfl (.neg rfl (.pos rfl (.pos rfl (.ae (m:=3) rfl rfl (.cL (m:=3) rfl (.ai ?_ (.ae (m:=0) rfl rfl (.ask t0.sh (.ai ?_ (.ai ?_ (.ret _))))))))))))))))))))))))),λf b hb=>fR (by decide) (by decide) rfl ?_ (λ_ _=>.step (λl=>gn l _ _ _ _ _ _ _ _ _ _) (.neg rfl (.neg rfl (.neg rfl (.neg rfl (.neg rfl (.step (λl=>jo l _ _ _ _ _ _ _ _ _ _) (.neg rfl (.neg rfl (.neg rfl (.neg rfl (.neg rfl (.neg rfl (.neg rfl (.neg rfl (.ask (fD (m:=40) rfl (by omega) _ _ ?_) (.ask (qx t0 .nil (by simp) _ _ ?_) (.ask (fD (m:=41) rfl (by omega) _ _ ?_) (.c7 ?_))))))))))))))))))) (λh=>?_),?_⟩
   any_goals(exact absurd h (by decide))
   all_goals first|(simp only[hk,hg,di,cr,ByteArray.append_assoc];done)|(simp only[hk,hg,di,cr,ByteArray.append_assoc];rfl)|(simp only[hk,di,hg,bj,ba,aN,List.length_nil]at*;omega)
  .have hk:dt 50=bs [100,111,109]:=rfl
   have hg:gS [AV.sc (.string (bs [100,111,109]))] 0=bs [100,111,109]:=rfl
   have hl:ks.length=1:=by have:=hn.ar;unfold fj dw at this;simp at this;omega
   obtain⟨o,rfl,e⟩:=nU vs hl
   obtain⟨n,t0⟩:=eV W e (by omega) (by omega)
   obtain⟨j,g⟩:=t0.closed e.range.1 e.range.2 (by omega)
   have p:=t0.sz
   have q:=g.sz
   refine⟨bs [100,111,109]++bs [40]++n++bs [41],.step (λl=>fF l _ _ _ _ _ _ _) (.neg rfl (.neg rfl (.neg rfl (.neg rfl (.neg rfl (.neg rfl (.neg rfl (.neg rfl (.neg rfl (.neg rfl (.neg rfl (.neg rfl (.neg rfl (.neg rfl (.neg rfl (.pos rfl (.pos rfl (.ae (m:=4) rfl rfl (.cL (m:=4) rfl (.ai ?_ (.ae (m:=0) rfl rfl (.ask t0.sh (.ai ?_ (.ai ?_ (.ret _))))))))))))))))))))))))),λf b hb=>fR (by decide) (by decide) rfl ?_ (λ_ _=>.step (λl=>gn l _ _ _ _ _ _ _ _ _ _) (.neg rfl (.neg rfl (.neg rfl (.neg rfl (.neg rfl (.step (λl=>jo l _ _ _ _ _ _ _ _ _ _) (.neg rfl (.neg rfl (.neg rfl (.neg rfl (.neg rfl (.neg rfl (.neg rfl (.neg rfl (.ask (fD (m:=40) rfl (by omega) _ _ ?_) (.ask (qx t0 .nil (by simp) _ _ ?_) (.ask (fD (m:=41) rfl (by omega) _ _ ?_) (.c7 ?_))))))))))))))))))) (λh=>?_),?_⟩
   any_goals(exact absurd h (by decide))
   all_goals first|(simp only[hk,hg,di,cr,ByteArray.append_assoc];done)|(simp only[hk,hg,di,cr,ByteArray.append_assoc];rfl)|(simp only[hk,di,hg,bj,ba,aN,List.length_nil]at*;omega)
  .have hk:dt 51=bs [114,97,110]:=rfl
   have hg:gS [AV.sc (.string (bs [114,97,110]))] 0=bs [114,97,110]:=rfl
   have hl:ks.length=1:=by have:=hn.ar;unfold fj dw at this;simp at this;omega
   obtain⟨o,rfl,e⟩:=nU vs hl
   obtain⟨n,t0⟩:=eV W e (by omega) (by omega)
   obtain⟨j,g⟩:=t0.closed e.range.1 e.range.2 (by omega)
   have p:=t0.sz
   have q:=g.sz
   refine⟨bs [114,97,110]++bs [40]++n++bs [41],.step (λl=>fF l _ _ _ _ _ _ _) (.neg rfl (.neg rfl (.neg rfl (.neg rfl (.neg rfl (.neg rfl (.neg rfl (.neg rfl (.neg rfl (.neg rfl (.neg rfl (.neg rfl (.neg rfl (.neg rfl (.neg rfl (.pos rfl (.pos rfl (.ae (m:=5) rfl rfl (.cL (m:=5) rfl (.ai ?_ (.ae (m:=0) rfl rfl (.ask t0.sh (.ai ?_ (.ai ?_ (.ret _))))))))))))))))))))))))),λf b hb=>fR (by decide) (by decide) rfl ?_ (λ_ _=>.step (λl=>gn l _ _ _ _ _ _ _ _ _ _) (.neg rfl (.neg rfl (.neg rfl (.neg rfl (.neg rfl (.step (λl=>jo l _ _ _ _ _ _ _ _ _ _) (.neg rfl (.neg rfl (.neg rfl (.neg rfl (.neg rfl (.neg rfl (.neg rfl (.neg rfl (.ask (fD (m:=40) rfl (by omega) _ _ ?_) (.ask (qx t0 .nil (by simp) _ _ ?_) (.ask (fD (m:=41) rfl (by omega) _ _ ?_) (.c7 ?_))))))))))))))))))) (λh=>?_),?_⟩
   any_goals(exact absurd h (by decide))
   all_goals first|(simp only[hk,hg,di,cr,ByteArray.append_assoc];done)|(simp only[hk,hg,di,cr,ByteArray.append_assoc];rfl)|(simp only[hk,di,hg,bj,ba,aN,List.length_nil]at*;omega)
  .have hl:ks.length=2:=by have:=hn.ar;unfold fj dw at this;rw[if_neg (by omega),if_neg (by omega),if_neg (by omega),if_pos (by omega)]at this;have:=dP this;omega
   obtain⟨o,z,D,F,rfl,rfl,e,t⟩:=qW vs hl
   obtain⟨n,t0⟩:=eV W e (by omega) (by omega)
   obtain⟨u,t1⟩:=eV W t (by omega) (by omega)
   obtain⟨j,g⟩:=t0.closed e.range.1 e.range.2 (by omega)
   obtain⟨K,I⟩:=t1.closed t.range.1 t.range.2 (by omega)
   have q:=g.sz
   have y1:=I.sz
   obtain⟨P,g2⟩:=Rn J
   have ref:Ev (λl=>xx l [o,z] op nm N tk tn ts [o,z]) (j++bs [32]++oW op++bs [32]++K):=by refine .step (λl=>Pt l _ _ _ _ _ _ _ _) (.ae (m:=0) rfl rfl (.ask g.sh (.ai ?_ (.ask (LA hr.1 hr.2) (.ai ?_ (.ai ?_ (.ae (m:=1) rfl rfl (.ask I.sh (.ai ?_ (.ret _))))))))));all_goals(simp only[bj,ba,aN,List.length_nil];omega)
   refine⟨j++bs [32]++oW op++bs [32]++K,.step (λl=>fF l _ _ _ _ _ _ _) ?_,λf b hb=>.step (λl=>Mn l _ _ _ _ _ _ _ _ _) (.ask (Er hr.1 hr.2) (.pos (by rw[P];rfl) (.ae (m:=0) rfl rfl (.ask (g.wr _ _ ?_) (.ai ?_ (.ai ?_ (.ask (mm _ _ _ ?_) (.ae (m:=1) rfl rfl (.ask (I.wr _ _ ?_) (.c7 ?_)))))))))),?_⟩
   .iterate 15 refine .neg (by rw[beq_eq_false_iff_ne];omega) ?_
    refine .ite (λh=>.neg (aH (by have:=dP h;omega)) ref) (λh=>ref)
   all_goals first|(simp only[cr,ByteArray.append_assoc];done)|(simp only[bj,ba,aN,List.length_nil]at*;omega)
theorem Sk(f:Bool)(b:ByteArray)(h:b.size<=140737488355328):Ev (λl=>EN l f b) (b,f,b):=by
 refine .step (λl=>UG l _ _) (.ite (λh1=>.head ⟨by have:=dP h1;omega,Int.le_refl _,by omega⟩ (.c7 ?_)) (λh1=>?_))
 .have:b.extract 0 ((b.size:Int)).toNat=b:=by rw[Int.toNat_natCast];exact ByteArray.extract_zero_size
  rw[this]
 .have h1:=of_decide_eq_false h1
  have h0:b.size=0:=by omega
  refine .pos (by rw[h0];rfl) (.c7 ?_);have:b=bs []:=ByteArray.ext (Array.ext' (by rw[rO h0]));rw[this]
theorem formatTerm(op:Int)(nm:ByteArray)(N tk:Int)(tn:ByteArray)(ts ks:Rows)(hk:cd ks<4611686018427387904)(hn:Fits nm):
 ∃s:ByteArray,s.size<=1400000/\Ev (λl=>w4 l op nm N tk tn ts ks) s/\Ev (λl=>wt l op nm N tk tn ts ks) s:=by
 obtain⟨b,h1,h2,h3⟩:=H7 op nm N tk tn ts ks hk hn
 cases b with
 |false=>exact⟨bs [],by decide,.step (λl=>Ny l _ _ _ _ _ _ _) (.ask h1 (.pos rfl (.ret _))),.step (λl=>Mk l _ _ _ _ _ _ _) (.ask h2 (.pos rfl (.ret _)))⟩
 |true=>
  obtain⟨c,v,hc⟩:=h3 rfl
  obtain⟨s,t⟩:=eV _ v (Nat.lt_succ_self _) hc
  have hz:=t.sz
  have hw:=t.wr false (bs []) (by rw[ba];simp;omega)
  refine⟨s,by omega,.step (λl=>Ny l _ _ _ _ _ _ _) (.ask h1 (.neg rfl (.ask hw (.ask (Sk _ _ ?_) (.c7 ?_))))),.step (λl=>Mk l _ _ _ _ _ _ _) (.ask h2 (.neg rfl (.ask t.sh (.ret _))))⟩
  .simp only[bj,ba,List.length_nil];omega
  .exact ByteArray.empty_append
end Go.AI
