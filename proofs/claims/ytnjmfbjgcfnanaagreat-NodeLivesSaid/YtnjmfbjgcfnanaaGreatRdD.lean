import Derived.Test.YtnjmfbjgcfnanaaGreatRdC
import Derived.Test.YtnjmfbjgcfnanaaGreatNdE
namespace Go.Proofs.YtnjmfbjgcfnanaaGreat
open Go Go.Eng Tryz
open Go.IntKind (wrap)
set_option linter.unusedSimpArgs false
set_option linter.unusedVariables false
set_option maxRecDepth 100000
set_option maxHeartbeats 8000000
theorem SoR.put{s r:So}(h:SoR s r)(e:E3)(root boot:Int):SoR {s with e:=e,root:=root,boot:=boot,age:=0,has:=true} {r with e:=e,root:=root,boot:=boot,age:=0,has:=true}:=by
  obtain⟨h1,_,_⟩:=h
  exact⟨h1,rfl,fun _=>by rw[h1]⟩
theorem mQ{p:Pr}{r:R8}{t:Int}(h:Ij p r t=false):Xp p r t=p:=by unfold Xp;rw[if_neg (by rw[h];decide)]
theorem rP{p:Pr}{r:R8}{t:Int}(h:Ij p r t=true):Xp p r t={p with waits:=false,tries:=0}:=by unfold Xp;rw[if_pos h]
theorem Mc.n{w:World}{O X:NP}{M:NB}{br bE:Nat}{d:Nd}{f:Fr}{st:Int}(h:RN w O M br bE X d)(hG:Xn d)(hl:d.jobs.length≤100)(hu:f.u){k:TR Si→WP}
    (hk: ∀w' O',RN w' O' M br bE X (d.heard f st).1→Nx (MO M O) w (MO M O') w'→k (((d.heard f st).2,()),()) w'):Ae prog F.Mc [pB (M 0),vP f.pl,iV st] w false Si k:=by
  refine Mc.ok ?_
  unfold Mc.wp
  refine Ad fun p14 w15 e15 k15 u15=>?_
  change Az w15 p14 (encs Uo f.pl) at k15
  rw[Ap]
  have H:=(h.Ai u15).drew
  have K:=k15.drew
  have G:=u15.trans (Af.drew w15)
  have s15:w15.drew.heap.size=w15.heap.size:=rfl
  have l14:=K.lt
  generalize w15.drew=w16 at*
  have hfr:f.pl.2.1=f.from:=by cases f<;>rfl
  refine K.c1 1 (c:=KI) (x:=f.pl.2.1) rfl ?_
  rw[Ac]
  refine H.me (Yl (fun c=>?_) fun c=>?_)
  · have c:f.pl.2.1=d.s.me:=c
    have e:d.heard f st=(d,0):=by unfold Nd.heard;rw[if_pos (hfr▸c)]
    rw[e] at hk
    exact hk w16 O H (Nx.of G)
  have c:f.pl.2.1≠d.s.me:=c
  have e:d.heard f st=d.take f st:=by unfold Nd.heard;rw[if_neg (hfr▸c)]
  rw[e] at hk
  obtain⟨J,eJ⟩: ∃J:(Addr×Int×Unit)→WP,J=fun z W=> ∃q:Nat,z=(⟨q,0,none⟩,(d.tm st).2,())∧w16.heap.size≤q∧Az W q (encs K5 (Yc (d.tm st).1))∧Af w16 W:=⟨_,rfl⟩
  refine Cc.by J ?_ ?_
  · rw[Ap,Ac]
    have H:=H.drew
    have G:=Af.drew w16
    have sz:w16.drew.heap.size=w16.heap.size:=rfl
    generalize w16.drew=w8 at*
    obtain⟨sW,sJ,h0,_⟩:=H.ex
    refine H.n0 17 (c:=.p) (x:=some ⟨M 4,0,none⟩) (fun _ _=>rfl) ?_
    rw[Ac]
    refine H.n0 14 (c:=.p) (x:=some ⟨br,0,none⟩) (fun _ _=>rfl) ?_
    exact H.Alu (J:=J) (HP:=fun W=>Hold [(7,Addr.add ⟨M 0,0,none⟩ 14,(w8.cell? (Addr.add ⟨M 0,0,none⟩ 14)).getD undef),(3,Addr.add ⟨M 0,0,none⟩ 17,(w8.cell? (Addr.add ⟨M 0,0,none⟩ 17)).getD undef)] W) (fun W g=>⟨h0.hold g (fun x=>x) 14 (by rw[S9];decide),h0.hold g (fun x=>x) 17 (by rw[S9];decide),trivial⟩) fun p W hp K g=>by rw[eJ];exact⟨p,rfl,by omega,K,G.trans g⟩
  rw[eJ]
  rintro _ W ⟨q,rfl,hq,kq,gW⟩ _
  have H:=H.Ai gW
  have K:=K.Ai gW
  have G:=G.trans gW
  have lq:=kq.lt
  refine K.c0 (c:=KI) (x:=f.pl.1) rfl ?_
  have nM: ∀i,i<7→p14≠M i:=fun i hi e=>by have:=h.lt (M i) (Xx M O i hi);omega
  cases f with
  |sync s=>
    refine Vt rfl ?_
    rw[Ap,Ac]
    have H:=H.drew
    have K:=K.drew
    have G:=G.trans (Af.drew W)
    generalize W.drew=w39 at*
    refine H.n0 14 (c:=.p) (x:=some ⟨br,0,none⟩) (fun _ _=>rfl) (K.cA (Fr.sync s).pl rfl (Ku.cw (p:=(Fr.sync s).pl) hu H.fw (fun hz w44 u44=>⟨trivial,?_⟩) fun c hc hc0 w44 O44 F44 x44=>⟨trivial,?_⟩))
    · have hz:hrF d.e d.l s st=0:=hz
      have e:d.take (.sync s) st=(d,0):=by unfold Nd.take Nd.aH;dsimp only;rw[if_pos hz]
      rw[e] at hk
      exact hk w44 O (H.Ai u44) (Nx.of (G.trans u44))
    · have hc:hrF d.e d.l s st=c:=hc
      have e:d.take (.sync s) st=({d with f:=hfF d.f s st,e:=xU d.e s.2.1,l:=Xd d.l s.2.1 (yH s),es:=esF c d.es s st},0):=by unfold Nd.take Nd.aH;dsimp only;rw[hc,if_neg hc0]
      rw[e] at hk
      exact hk w44 O44 (H.Aeo F44 x44) (Nx.pre G (RN.nxF x44))
  |find x=>
    refine Jl rfl (Vt rfl ?_)
    rw[Ac]
    refine H.n0 14 (c:=.p) (x:=some ⟨br,0,none⟩) (fun _ _=>rfl) (Bz.cw H.fw fun w48 u48=>Ee (fun cs=>?_) fun cs=>?_)
    · have cs:d.syn=false:=cs
      have e:d.take (.find x) st=({d with lev:=(N7 d.s.me d.lev d.par x).1.1,par:=(N7 d.s.me d.lev d.par x).1.2},0):=by unfold Nd.take;dsimp only;rw[if_neg (by rw[cs];decide)]
      rw[e] at hk
      rw[Ap,Ac]
      have H:=(H.Ai u48).drew
      have K:=(K.Ai u48).drew
      have G:=(G.trans u48).trans (Af.drew w48)
      generalize w48.drew=w49 at*
      refine H.n0 15 (c:=.p) (x:=some ⟨M 2,0,none⟩) (fun _ _=>rfl) (K.c1 1 (c:=KI) (x:=x.1) rfl (K.c1 8 (c:=KI) (x:=x.2) rfl (Jw.cl (x:=x) H.lb fun v w55 k55 u55=>⟨trivial,?_⟩)))
      exact hk w55 O (H.set2 k55 u55) (Nx.pre G (RN.nx 2 (by decide) u55))
    · have cs:d.syn=true:=cs
      have e:d.take (.find x) st=(d,0):=by unfold Nd.take;dsimp only;rw[if_pos cs]
      rw[e] at hk
      exact hk w48 O (H.Ai u48) (Nx.of (G.trans u48))
  |want m=>
    refine Jl rfl (Jl rfl (Vt rfl (Yl (fun c=>?_) fun c=>?_)))
    · have c:(d.tm st).2=0:=c
      have e:d.take (.want m) st=d.push .find:=by unfold Nd.take;dsimp only;rw[if_pos c]
      rw[e] at hk
      exact Gy.n (j:=.find) H fun w57 H57 X57=>hk w57 O H57 (Nx.pre G X57)
    · have c: ¬(d.tm st).2=0:=c
      have e:d.take (.want m) st=(d,0):=by unfold Nd.take;dsimp only;rw[if_neg c]
      rw[e] at hk
      exact hk W O H (Nx.of G)
  |pulse x=>
    refine Jl rfl (Jl rfl (Jl rfl (Vt rfl ?_)))
    refine Cc.by (fun z W'=>z=(decide ((d.tm st).2=0∧x.2.1=d.s.me),())∧Af W W') ?_ ?_
    · rw[Ap]
      have H:=H.drew
      have K:=K.drew
      have g:=Af.drew W
      generalize W.drew=w61 at*
      refine Yl (fun c=>?_) fun c=>⟨?_,g⟩
      · have c:(d.tm st).2=0:=c
        refine K.c1 2 (c:=KI) (x:=x.2.1) rfl ?_
        rw[Ac]
        refine H.me ⟨?_,g⟩
        show((x.2.1==d.s.me),())=_
        have:(x.2.1==d.s.me)=decide ((d.tm st).2=0∧x.2.1=d.s.me):=by
          by_cases hx:x.2.1=d.s.me
          · rw[decide_eq_true ⟨c,hx⟩,hx];simp
          · rw[decide_eq_false (fun h=>hx h.2),beq_false_of_ne hx]
        rw[this]
      · have c: ¬(d.tm st).2=0:=c
        rw[decide_eq_false (fun h=>c h.1)]
    rintro _ w60 ⟨rfl,g60⟩ _
    have H:=H.Ai g60
    have K:=K.Ai g60
    have G:=G.trans g60
    refine Dx (fun c=>?_) fun c=>?_
    · have c:(d.tm st).2=0∧x.2.1=d.s.me:=c
      have e:d.take (.pulse x) st=d.push (.reply x.1 x.2.2 (d.tm st).1):=by unfold Nd.take;dsimp only;rw[if_pos c]
      rw[e] at hk
      exact K.c1 1 (c:=KI) (x:=x.1) rfl (K.c1 9 (c:=KI) (x:=x.2.2) rfl ((kq.Ai g60).cA (cs:=K5) (Yc (d.tm st).1) rfl (Gy.n (j:=.reply x.1 x.2.2 (d.tm st).1) H fun w57 H57 X57=>hk w57 O H57 (Nx.pre G X57))))
    · have c: ¬((d.tm st).2=0∧x.2.1=d.s.me):=c
      have e:d.take (.pulse x) st=(d,0):=by unfold Nd.take;dsimp only;rw[if_neg c]
      rw[e] at hk
      exact hk w60 O H (Nx.of G)
  |reply r=>
    refine Jl rfl (Jl rfl (Jl rfl (Jl rfl (Vt rfl ?_))))
    obtain⟨en,een⟩: ∃en:List Value,en=if Ij d.pr r st=true then[iV (Py r st).1,iV (Py r st).2.1,iV (Py r st).2.2] else[iV 0,iV 0,iV 0]:=⟨_,rfl⟩
    refine Cc.by (fun z W'=> ∃q:Nat,z=(⟨q,0,none⟩,Ij d.pr r st,())∧RN W' O M br bE X {d with pr:=Xp d.pr r st}∧Az W' q en∧Nx (MO M O) w (MO M O) W'∧Az W' p14 (encs Uo (Fr.reply r).pl)) ?_ ?_
    · rw[Ap,Ac]
      have H:=H.drew
      have K:=K.drew
      have G:=G.trans (Af.drew W)
      have s73:W.drew.heap.size=W.heap.size:=rfl
      have lH:=H.lt
      generalize W.drew=w73 at*
      obtain⟨sW,sJ,h0,_⟩:=H.ex
      have HK: ∀{S:NP} {w':World},Am S w73 w'→ ¬S p14→ ¬S (M 0)→Hold [(4,Addr.add ⟨p14,0,none⟩ 0,(w73.cell? (Addr.add ⟨p14,0,none⟩ 0)).getD undef),(4,Addr.add ⟨p14,0,none⟩ 1,(w73.cell? (Addr.add ⟨p14,0,none⟩ 1)).getD undef),(4,Addr.add ⟨p14,0,none⟩ 2,(w73.cell? (Addr.add ⟨p14,0,none⟩ 2)).getD undef),(4,Addr.add ⟨p14,0,none⟩ 3,(w73.cell? (Addr.add ⟨p14,0,none⟩ 3)).getD undef),(4,Addr.add ⟨p14,0,none⟩ 4,(w73.cell? (Addr.add ⟨p14,0,none⟩ 4)).getD undef),(4,Addr.add ⟨p14,0,none⟩ 5,(w73.cell? (Addr.add ⟨p14,0,none⟩ 5)).getD undef),(4,Addr.add ⟨p14,0,none⟩ 6,(w73.cell? (Addr.add ⟨p14,0,none⟩ 6)).getD undef),(4,Addr.add ⟨p14,0,none⟩ 7,(w73.cell? (Addr.add ⟨p14,0,none⟩ 7)).getD undef),(4,Addr.add ⟨p14,0,none⟩ 8,(w73.cell? (Addr.add ⟨p14,0,none⟩ 8)).getD undef),(4,Addr.add ⟨p14,0,none⟩ 9,(w73.cell? (Addr.add ⟨p14,0,none⟩ 9)).getD undef),(4,Addr.add ⟨p14,0,none⟩ 10,(w73.cell? (Addr.add ⟨p14,0,none⟩ 10)).getD undef),(4,Addr.add ⟨p14,0,none⟩ 11,(w73.cell? (Addr.add ⟨p14,0,none⟩ 11)).getD undef),(4,Addr.add ⟨p14,0,none⟩ 12,(w73.cell? (Addr.add ⟨p14,0,none⟩ 12)).getD undef),(4,Addr.add ⟨p14,0,none⟩ 13,(w73.cell? (Addr.add ⟨p14,0,none⟩ 13)).getD undef),(3,Addr.add ⟨M 0,0,none⟩ 16,(w73.cell? (Addr.add ⟨M 0,0,none⟩ 16)).getD undef)] w':=fun u n1 n2=>
        have q: ∀i,i<14→_:=fun i hi=>K.hold u n1 i (by rw[Ak];exact hi)
        ⟨q 0 (by decide),q 1 (by decide),q 2 (by decide),q 3 (by decide),q 4 (by decide),q 5 (by decide),q 6 (by decide),q 7 (by decide),q 8 (by decide),q 9 (by decide),q 10 (by decide),q 11 (by decide),q 12 (by decide),q 13 (by decide),h0.hold u n2 16 (by rw[S9];decide),trivial⟩
      refine H.n0 16 (c:=.p) (x:=some ⟨M 3,0,none⟩) (fun _ _=>rfl) (K.cA (Fr.reply r).pl rfl ⟨?_,?_⟩)
      · refine I4.cl H.pb (fun hf w78 u78=>⟨HK u78 (fun x=>x) (fun x=>x),Ad fun p79 w80 e79 k79 u80=>⟨HK (u78.trans u80) (fun x=>x) (fun x=>x),?_⟩⟩) fun hf w78 k78 u78=>⟨HK u78 (nM 3 (by decide)) (H.ne 0 3),Ad fun p79 w80 e79 k79 u80=>⟨HK (Am.Ai u78 u80) (nM 3 (by decide)) (H.ne 0 3),?_⟩⟩
        · refine k79.Fg [iV 0,iV 0,iV 0] rfl rfl fun w81 k81 u81=>⟨trivial,p79,?_,?_,?_,?_,?_⟩
          · rw[hf]
          · have:=H.Ai (Af.fresh u78 u80 u81 e79)
            rw[mQ hf];exact this
          · rw[een,if_neg (by rw[hf];decide)];exact k81
          · exact Nx.of (G.trans (Af.fresh u78 u80 u81 e79))
          · exact K.Ai (Af.fresh u78 u80 u81 e79)
        · refine k79.Fg [iV (Py r st).1,iV (Py r st).2.1,iV (Py r st).2.2] rfl rfl fun w81 k81 u81=>⟨trivial,p79,?_,?_,?_,?_,?_⟩
          · rw[hf]
          · have:=(H.qN k78 u78).Ai (Af.fresh (Af.refl _) u80 u81 e79)
            rw[rP hf];exact this
          · rw[een,if_pos hf];exact k81
          · exact(Nx.pre G (RN.nx 3 (by decide) u78)).Ai (Af.fresh (Af.refl _) u80 u81 e79)
          · exact(K.upd u78 (nM 3 (by decide))).Ai (Af.fresh (Af.refl _) u80 u81 e79)
      · refine Ad fun p82 w83 e82 k82 u83=>⟨HK u83 (fun x=>x) (fun x=>x),?_⟩
        have HX:RN w83 O M br bE (fun z=>X z∨z=p82) d:=H.far u83 (fun _ _ x=>x.elim) (fun z hz=>hz.elim .inl fun q=>.inr (by omega)) fun z hz=>hz.elim (fun q=>Nat.lt_of_lt_of_le (H.xl z q).1 u83.size) fun q=>by have:=k82.lt;omega
        have n82:p82≠M 3:=fun e=>by have:=lH (M 3) (Xx M O 3);omega
        refine I4.cl HX.pb (fun hf w85 u85=>⟨trivial,(k82.Ai u85).Fg [iV 0,iV 0,iV 0] rfl rfl fun w86 k86 u86=>⟨trivial,p82,?_,?_,?_,?_,?_⟩⟩) fun hf w85 k85 u85=>⟨trivial,(k82.upd u85 n82).Fg [iV (Py r st).1,iV (Py r st).2.1,iV (Py r st).2.2] rfl rfl fun w86 k86 u86=>⟨trivial,p82,?_,?_,?_,?_,?_⟩⟩
        · rw[hf]
        · have:=H.Ai (show Af w73 w86 from Am.new (Am.Bj (u83.trans u85)) u86 fun hh=>by omega)
          rw[mQ hf];exact this
        · rw[een,if_neg (by rw[hf];decide)];exact k86
        · exact Nx.of (G.trans (show Af w73 w86 from Am.new (Am.Bj (u83.trans u85)) u86 fun hh=>by omega))
        · exact K.Ai (show Af w73 w86 from Am.new (Am.Bj (u83.trans u85)) u86 fun hh=>by omega)
        · rw[hf]
        · have:=(HX.qN k85 u85).far u86 (X':=X) (fun z hz hh=>.inr hh) (fun z hz=>.inl (.inl hz)) fun z hz=>Nat.lt_of_lt_of_le ((HX.qN k85 u85).xl z (.inl hz)).1 u86.size
          rw[rP hf];exact this
        · rw[een,if_pos hf];exact k86
        · have N1:Nx (MO M O) w (MO M O) w85:=Nx.pre (G.trans u83) (RN.nx 3 (by decide) u85)
          exact N1.upL (L:=w73.heap.size) (u86.mono fun z hz=>by omega) G.size
        · exact((K.Ai u83).upd u85 (nM 3 (by decide))).upd u86 (by omega)
    rintro _ w72 ⟨q2,rfl,H72,k72,N72,K72⟩ _
    refine bM (fun c=>?_) fun c=>?_
    · have c:Ij d.pr r st=true:=c
      rw[een,if_pos c] at k72
      have e:d.take (.reply r) st=({d with pr:=Xp d.pr r st,so:=aG d.so (Py r st) r.2.2.2.2.2.1 r.2.2.2.2.2.2.1},0):=by unfold Nd.take;dsimp only;rw[if_pos c]
      rw[e] at hk
      rw[Ap,Ac]
      have H:=H72.drew
      have K:=K72.drew
      have k2:=k72.drew
      have N:=N72.Ai (Af.drew w72)
      generalize w72.drew=w87 at*
      obtain⟨ro,hr,sb⟩:=H.sb
      refine H.n0 17 (c:=.p) (x:=some ⟨M 4,0,none⟩) (fun _ _=>rfl) (k2.bC (K.c1 3 (c:=KI) (x:=r.2.2.2.2.2.1) rfl (K.c1 4 (c:=KU) (x:=r.2.2.2.2.2.2.1) rfl (Ko.cl (e:=Py r st) (root:=r.2.2.2.2.2.1) (boot:=r.2.2.2.2.2.2.1) sb (fun hp w94 u94=>⟨trivial,?_⟩) fun hp w94 k94 u94=>⟨trivial,?_⟩))))
      · have es:aG d.so (Py r st) r.2.2.2.2.2.1 r.2.2.2.2.2.2.1=d.so:=by unfold aG;rw[if_neg (by rw[hp];decide)]
        rw[es] at hk
        exact hk w94 O (H.Ai u94) (N.Ai u94)
      · have es:aG d.so (Py r st) r.2.2.2.2.2.1 r.2.2.2.2.2.2.1={d.so with e:=Py r st,root:=r.2.2.2.2.2.1,boot:=r.2.2.2.2.2.2.1,age:=0,has:=true}:=by unfold aG;rw[if_pos hp]
        rw[es] at hk
        exact hk w94 O (H.Ae2 (hr.put _ _ _) k94 u94) (N.trans (RN.nx 4 (by decide) u94))
    · have c:Ij d.pr r st=false:=c
      have e:d.take (.reply r) st=(d,0):=by unfold Nd.take;dsimp only;rw[if_neg (by rw[c];decide)]
      rw[e] at hk
      rw[mQ c] at H72
      exact hk w72 O H72 N72
  |anchor a=>
    refine Jl rfl (Jl rfl (Jl rfl (Jl rfl (Jl rfl (Vt rfl ?_)))))
    rw[Ap,Ac]
    have H:=H.drew
    have K:=K.drew
    have G:=G.trans (Af.drew W)
    generalize W.drew=w95 at*
    refine H.n0 18 (c:=.p) (x:=some ⟨M 5,0,none⟩) (fun _ _=>rfl) (K.cA (Fr.anchor a).pl rfl (Np.n hu.1 hG.bk.1 H.kb (fun hn w100 k100 u100=>⟨trivial,?_⟩) fun hn w100 u100=>⟨trivial,Jl rfl ?_⟩))
    · have e:d.take (.anchor a) st=({d with bh:=true,ba:=a}:Nd).pass:=by unfold Nd.take;dsimp only;rw[if_pos hn]
      rw[e] at hk
      refine Vt rfl (Gx.n (H.Aa7 k100 u100) hl fun w102 H102 X102=>hk w102 O H102 ((Nx.pre G (RN.nx 5 (by decide) u100)).trans X102))
    · have e:d.take (.anchor a) st=(d,0):=by unfold Nd.take;dsimp only;rw[if_neg (by rw[hn];decide)]
      rw[e] at hk
      exact hk w100 O (H.Ai u100) (Nx.of (G.trans u100))
theorem Nu.n{w:World}{O X:NP}{M:NB}{br bE:Nat}{d:Nd}{j:Int}{b:Sl}{xs:List Nat}(h:RN w O M br bE X d)(hG:Xn d)(hl:d.jobs.length≤100)(hx:eH xs)(hlm:xs.length≤1000000)(hR:Ur w b xs)(hc:b.2.1≤b.2.2){k:TR Si→WP}
    (hk: ∀w' O',RN w' O' M br bE X (d.hear j xs).1→Nx (MO M O) w (MO M O') w'→k (((d.hear j xs).2,()),()) w'):Ae prog F.Nu [pB (M 0),iV j,.slice b.1 b.2.1 b.2.2] w false Si k:=by
  refine Nu.ok ?_
  unfold Nu.wp
  refine Ht.n h hG (bK (fun c=>?_) fun c=>?_)
  · have c:(d.Yf j).2≠0:=c
    have e:d.hear j xs=(d,(d.Yf j).2):=by unfold Nd.hear;rw[if_pos c]
    rw[e] at hk
    exact hk w O h (Nx.of (Af.refl _))
  have c: ¬(d.Yf j).2≠0:=fun q=>q c
  refine Tc.cl hx hlm hc hR fun w4 u4=>Ad fun p5 w6 e5 k5 u6=>k5.Fg (encs Uo (rdP xs).1) rfl rfl fun w7 k7 u7=>?_
  have g7:Af w w7:=Af.fresh u4 u6 u7 e5
  cases hd:Xg xs with
  |error e=>
    have e0:e≠0:=by
      intro e0
      unfold Xg at hd
      subst e0
      split at hd
      · cases hd
      split at hd
      · cases hd
      split at hd
      · cases hd
      split at hd
      · cases hd
      split at hd
      · cases hd
      · cases hd
    rw[Ac7 hd]
    have eh:d.hear j xs=(d,e):=by unfold Nd.hear;rw[if_neg c,hd]
    rw[eh] at hk
    refine bK (fun _=>hk w7 O (h.Ai g7) (Nx.of g7)) fun q=>absurd q e0
  |ok f=>
    rw[Aby hd] at k7⊢
    have eh:d.hear j xs=d.heard f (d.Yf j).1:=by unfold Nd.hear;rw[if_neg c,hd]
    rw[eh] at hk
    exact Jl rfl (k7.cA f.pl rfl (Mc.n (h.Ai g7) hG hl (oU hx hd).2 fun w10 O10 H10 X10=>hk w10 O10 H10 (Nx.pre g7 X10)))
theorem Amo(l:List Ev): ∀u∈(l.map xI).flatMap (encs sV),u.oneCell'=true:=by
  intro u hu
  simp only[List.mem_flatMap,List.mem_map] at hu
  obtain⟨x,⟨y,_,rfl⟩,hu⟩:=hu
  simp[encs,enc] at hu
  rcases hu with rfl|rfl|rfl|rfl|rfl|rfl<;>rfl
theorem Akc(e:Ev): ∀u∈encs sV (xI e),u.oneCell'=true:=by
  intro u hu
  simp[encs,enc] at hu
  rcases hu with rfl|rfl|rfl|rfl|rfl|rfl<;>rfl
theorem RN.Alp{w w1 w':World}{O X:NP}{M:NB}{br bE:Nat}{d:Nd}(h:RN w O M br bE X d){evs:List Ev}{last:Int}{sW sJ:Sl}(u1:Am (fun z=>z=M 6∨z=M 0) w w')(k:Az w' (M 0) (rnC M br d sW sJ))(hW:DQ w' (MX M O X) sW sV (evs.map xI))(hJ:DQ w' (MX M O X) sJ KJb (d.jobs.map jT))(hL:LgD w' (MX M O X) (M 6) evs last):RN w' O M br bE X {d with evs:=evs,last:=last}:=by
  obtain⟨_,cb,fw,lb,pb,⟨r,hr,sb⟩,kb,gb,bz,inj,fo,xl⟩:=h
  have n: ∀i,i<7→i≠6→i≠0→ ¬(M i=M 6∨M i=M 0):=fun i hi h6 h0 e=>e.elim (fun e=>h6 (inj i 6 hi (by decide) e)) fun e=>h0 (inj i 0 hi (by decide) e)
  exact⟨⟨sW,sJ,k,hW,hJ⟩,cb.upd u1 (n 1 (by decide) (by decide) (by decide)),fw.upd u1 (fun z hz e=>e.elim (fun e=>fo 6 (by decide) (e▸hz)) fun e=>fo 0 (by decide) (e▸hz)),lb.upd u1 (n 2 (by decide) (by decide) (by decide)),pb.upd u1 (n 3 (by decide) (by decide) (by decide)),⟨r,hr,sb.upd u1 (n 4 (by decide) (by decide) (by decide))⟩,kb.upd u1 (n 5 (by decide) (by decide) (by decide)),hL,bz,inj,fo,fun z hz=>⟨Nat.lt_of_lt_of_le (xl z hz).1 u1.size,(xl z hz).2⟩⟩
theorem RN.Ao6{w w':World}{O:NP}{M:NB}(u:Am (fun z=>z=M 6∨z=M 0) w w'):Nx (MO M O) w (MO M O) w':=⟨u.mono fun z hz=>hz.elim (fun e=>by rw[e];exact Xx M O 6) fun e=>by rw[e];exact Xx M O 0,fun z hz=>.inl hz⟩
theorem O5.n{w:World}{O X:NP}{M:NB}{br bE:Nat}{d:Nd}{s:ByteArray}(h:RN w O M br bE X d)(hs:s.size≤1000000){k:TR Aei→WP}
    (hk: ∀w',RN w' O M br bE X (d.tag s).1→Nx (MO M O) w (MO M O) w'→k (((d.tag s).2.1,()),((d.tag s).2.2,()),()) w'):Ae prog F.O5 [pB (M 0),.string s] w true Aei k:=by
  refine O5.ok ?_
  unfold O5.wp
  refine Iz.n h fun w2 u2=>Ad fun p3 w4 e3 k3 u4=>k3.Fg (encs K5 (Yc d.time.1)) rfl rfl fun w5 k5 u5=>?_
  have g5:Af w w5:=Af.fresh u2 u4 u5 e3
  have H:=h.Ai g5
  refine bK (fun c=>?_) fun c=>?_
  · have c:d.time.2≠0:=c
    have e:d.tag s=(d,0,d.time.2):=by unfold Nd.tag;rw[if_pos c]
    rw[e] at hk
    exact hk w5 H (Nx.of g5)
  have c: ¬d.time.2≠0:=fun q=>q c
  have l3:=h.lt
  have np3: ∀i,i<7→p3≠M i:=fun i hi e=>by have:=l3 (M i) (Xx M O i hi);have:=u2.size;omega
  rw[Ac]
  refine H.n0 19 (c:=.p) (x:=some ⟨M 6,0,none⟩) (fun _ _=>rfl) ?_
  refine Qe.n (Q:=MX M O X) H.xlt (.inl (Xx M O 6)) H.gb hs (fun hg=>?_) (fun hg hf=>?_) fun hg hf w9 hL u9=>?_
  · have e:d.tag s=(d,0,1):=by unfold Nd.tag;rw[if_neg c,if_pos hg]
    rw[e] at hk
    exact Jl rfl (hk w5 H (Nx.of g5))
  · have e:d.tag s=(d,0,6):=by unfold Nd.tag;rw[if_neg c,if_neg (by rw[hg];decide),if_pos hf]
    rw[e] at hk
    exact Jl rfl (hk w5 H (Nx.of g5))
  · obtain⟨n,en⟩: ∃n,n=wrap .i64 (d.last+1):=⟨_,rfl⟩
    rw[←en] at hL
    have e:d.tag s=({d with evs:=d.evs++[⟨n,s,d.now,d.time.1⟩],last:=n},n,0):=by unfold Nd.tag;rw[if_neg c,if_neg (by rw[hg];decide),if_neg hf,en]
    rw[e] at hk
    rw[←en]
    refine Vt rfl ?_
    rw[Ap,Ac]
    obtain⟨sW,sJ,h0,hW,hJ⟩:=H.ex
    have q6: ∀z,z<w5.heap.size→z=M 6→MX M O X z:=fun z _ e=>by rw[e];exact .inl (Xx M O 6)
    have h0:=(h0.upd u9 (H.ne 0 6)).drew
    have hW:=(hW.upd u9 q6 fun _ _ x=>x).Ai (Af.drew w9)
    have hJ:=(hJ.upd u9 q6 fun _ _ x=>x).Ai (Af.drew w9)
    have hc:=(H.cb.upd u9 (H.ne 1 6)).drew
    have k5:=(k5.upd u9 (np3 6 (by decide))).drew
    have hL:=fun loc a=>(hL loc a).Ai (Af.drew w9)
    have U:Am (fun z=>z=M 6) w5 w9.drew:=u9.drew
    have xl: ∀z,MX M O X z→z<w9.drew.heap.size:=fun z hz=>Nat.lt_of_lt_of_le (H.xlt z hz) U.size
    generalize w9.drew=w10 at*
    have hlen:d.evs.length≤1000:=by omega
    refine h0.c1 20 (c:=.sl) (x:=sW) rfl ?_
    rw[Ac]
    refine h0.c1 13 (c:=.p) (x:=some ⟨M 1,0,none⟩) rfl ?_
    rw[Ac]
    refine hc.c1 1 (c:=KI) (x:=d.now) rfl (k5.cA (cs:=K5) (Yc d.time.1) rfl ?_)
    refine DR.snoc (cs:=sV) (n:=6) (x:=xI ⟨n,s,d.now,d.time.1⟩) (xs:=d.evs.map xI) (by kernel_rfl) (by kernel_rfl) rfl (by decide) (Amo _) (Akc _) (by rw[List.length_map];exact hlen) hW.d (HP:=fun W=>Hold [_,_,_,_,_,_,_,_] W) ?_ ?_ rfl
    · exact fun W g=>⟨k5.hold g (fun x=>x) 0 (by rw[Ak];decide),k5.hold g (fun x=>x) 1 (by rw[Ak];decide),k5.hold g (fun x=>x) 2 (by rw[Ak];decide),k5.hold g (fun x=>x) 3 (by rw[Ak];decide),k5.hold g (fun x=>x) 4 (by rw[Ak];decide),hc.hold g (fun x=>x) 1 (by simp),h0.hold g (fun x=>x) 13 (by rw[S9];decide),h0.hold g (fun x=>x) 20 (by rw[S9];decide),trivial⟩
    · intro y W o g
      rw[Ac]
      refine(h0.Ai g).sN 20 [bP y] (by rw[S9];show 21≤22;decide) rfl fun w27 k27 u27=>⟨trivial,?_⟩
      have q0: ∀z,z<W.heap.size→z=M 0→MX M O X z:=fun z _ e=>by rw[e];exact .inl (Xx M O 0)
      have dW:=(DQ.new o rfl xl).upd u27 q0 fun _ _ x=>x
      have U2:Am (fun z=>z=M 6∨z=M 0) w5 w27:=Am.trans (Am.trans (U.mono fun z hz=>.inl hz) g fun _ _ x=>x.elim) (u27.mono fun z hz=>.inr hz) fun _ _ x=>x
      refine hk w27 (H.Alp (w1:=w5) U2 (sW:=y) (sJ:=sJ) k27 ?_ ((hJ.Ai g).upd u27 q0 fun _ _ x=>x) (((hL d.now d.time.1).Ai g).upd u27 (H.ne 6 0) q0 fun _ _ x=>x)) (Nx.pre g5 (RN.Ao6 U2))
      rw[List.map_append]
      exact dW
theorem Ii.n{w:World}{O X:NP}{M:NB}{br bE:Nat}{d:Nd}(h:RN w O M br bE X d){k:TR [(false,[KI]),(false,[.s]),(true,sV),(false,[.b])]→WP}
    (h0:d.Ua=(d,none)→ ∀w',RN w' O M br bE X d→Nx (MO M O) w (MO M O) w'→k ((0,()),(⟨#[]⟩,()),(0,0,0,0,0,0,()),(false,()),()) w')
    (h1: ∀e t,d.evs=e::t→d.Ua=({d with evs:=t},some e)→ ∀w',RN w' O M br bE X {d with evs:=t}→Nx (MO M O) w (MO M O) w'→k ((e.id,()),(e.lab,()),xI e,(true,()),()) w'):Ae prog F.Ii [pB (M 0)] w true [(false,[KI]),(false,[.s]),(true,sV),(false,[.b])] k:=by
  refine Ii.ok ?_
  unfold Ii.wp
  refine Ad fun p1 w2 e1 k1 u1=>?_
  have H:=h.Ai u1
  have np1: ∀i,i<7→p1≠M i:=fun i hi e=>by have:=h.lt (M i) (Xx M O i hi);omega
  rw[Ac]
  refine H.n0 11 (c:=.b) (x:=d.on) (fun _ _=>rfl) (Ee (fun c=>?_) fun c=>?_)
  · have c:d.on=false:=c
    refine k1.Fg (encs sV (0,0,0,0,0,0,())) rfl rfl fun w5 k5 u5=>k5.cA (cs:=sV) (0,0,0,0,0,0,()) rfl (h0 (by unfold Nd.Ua;rw[if_pos c]) w5 ?_ ?_)
    · exact h.Ai (Af.fresh (Af.refl _) u1 u5 e1)
    · exact Nx.of (Af.fresh (Af.refl _) u1 u5 e1)
  have c: ¬d.on=false:=by have c:d.on=true:=c;rw[c];decide
  have HX:RN w2 O M br bE (fun z=>X z∨z=p1) d:=h.far u1 (fun _ _ x=>x.elim) (fun z hz=>hz.elim .inl fun q=>.inr (by omega)) fun z hz=>hz.elim (fun q=>Nat.lt_of_lt_of_le (h.xl z q).1 u1.size) fun q=>by have:=k1.lt;omega
  rw[Ac]
  refine HX.n0 19 (c:=.p) (x:=some ⟨M 6,0,none⟩) (fun _ _=>rfl) ?_
  refine Oy.n (Q:=MX M O (fun z=>X z∨z=p1)) (.inl (Xx M O 6)) HX.gb (fun he=>?_) fun e t he w10 L10 u10=>?_
  · refine Vt rfl (k1.Fg (encs sV (0,0,0,0,0,0,())) rfl rfl fun w5 k5 u5=>k5.cA (cs:=sV) (0,0,0,0,0,0,()) rfl (h0 ?_ w5 ?_ ?_))
    · have e1:({d with evs:=d.evs.tail}:Nd)=d:=by
        rw[he]
        show{d with evs:=[]}=d
        rw[←he]
      unfold Nd.Ua;rw[if_neg c,e1,he];rfl
    · exact h.Ai (Af.fresh (Af.refl _) u1 u5 e1)
    · exact Nx.of (Af.fresh (Af.refl _) u1 u5 e1)
  · have ht:d.Ua=({d with evs:=t},some e):=by unfold Nd.Ua;rw[if_neg c,he];rfl
    have h1:=h1 e t he ht
    obtain⟨sW,sJ,hb,hW,hJ⟩:=HX.ex
    rw[he] at hW
    obtain⟨Q,eQ⟩: ∃Q:NP,Q=MX M O (fun z=>X z∨z=p1):=⟨_,rfl⟩
    have q6: ∀z,z<w2.heap.size→z=M 6→MX M O (fun z=>X z∨z=p1) z:=fun z _ e=>by rw[e];exact .inl (Xx M O 6)
    have hb:=hb.upd u10 (H.ne 0 6)
    have hW:=hW.upd u10 q6 fun _ _ x=>x
    have hJ:=hJ.upd u10 q6 fun _ _ x=>x
    have k1:=k1.upd u10 (np1 6 (by decide))
    obtain⟨eT,dT⟩:=DQ.tail (cs:=sV) (x:=xI e) (t:=t.map xI) hW (by decide) (n:=6) rfl
    refine Jl rfl ?_
    rw[Ac]
    refine hb.c1 20 (c:=.sl) (x:=sW) rfl (DR.head (cs:=sV) (x:=xI e) (t:=t.map xI) hW.d (by decide) (n:=6) rfl (Ad fun p17 w18 e17 k17 u18=>k17.Fg (encs sV (xI e)) rfl rfl fun w19 k19 u19=>?_))
    have g19:Af w10 w19:=Af.fresh (Af.refl _) u18 u19 e17
    have lhb:=hb.lt
    have l1:=k1.lt
    rw[Ac]
    refine(hb.Ai g19).c1 20 (c:=.sl) (x:=sW) rfl ?_
    rw[eT,Ac]
    refine(hb.Ai g19).sN 20 [bP (dG sW.1 sW.2.2 (Int.toNat 1) 6,Int.toNat (sW.2.1:Int)-Int.toNat 1,sW.2.2-Int.toNat 1)] (by rw[S9];show 21≤22;decide) rfl fun w23 k23 u23=>?_
    have q0: ∀z,z<w19.heap.size→z=M 0→MX M O (fun z=>X z∨z=p1) z:=fun z _ e=>by rw[e];exact .inl (Xx M O 0)
    have U2:Am (fun z=>z=M 6∨z=M 0) w2 w23:=Am.trans (Am.trans (u10.mono fun z hz=>.inl hz) g19 fun _ _ x=>x.elim) (u23.mono fun z hz=>.inr hz) fun _ _ x=>x
    have dT23:=(dT.Ai g19).upd u23 q0 fun _ _ x=>x
    have dJ23:=(hJ.Ai g19).upd u23 q0 fun _ _ x=>x
    have dL23:=(L10.Ai g19).upd u23 (H.ne 6 0) q0 fun _ _ x=>x
    have H23:=(HX.Alp (w1:=w2) U2 (sJ:=sJ) k23 dT23 dJ23 dL23).drew
    have N23:=(Nx.pre u1 (RN.Ao6 (O:=O) U2)).Ai (Af.drew w23)
    rw[Ap]
    have K:=(k19.upd u23 (by omega)).drew
    have K1:=((k1.Ai g19).upd u23 (np1 0 (by decide))).drew
    generalize w23.drew=w24 at*
    refine K.cA (cs:=sV) (xI e) rfl (K1.Fg (encs sV (xI e)) rfl rfl fun w26 k26 u26=>⟨trivial,k26.cA (cs:=sV) (xI e) rfl (h1 w26 ?_ ?_)⟩)
    · exact H23.far u26 (fun z hz hh=>.inr hh) (fun z hz=>.inl (.inl hz)) fun z hz=>Nat.lt_of_lt_of_le (H23.xl z (.inl hz)).1 u26.size
    · exact N23.upL (L:=w.heap.size) (u26.mono fun z hz=>by omega) (Nat.le_refl _)
theorem Apd{e:El}{l:Um}(h:EI e l):Xe (oN e l).1:=by
  unfold oN
  split
  · exact u0
  split
  · exact h.boot
  · cases hm:Vu l e.root with
    |none=>exact u0
    |some m=>exact(h.marks _ m hm).1
theorem Aqr{d:Nd}(h:EI d.e d.l)(hS:Yu d)(t:Int):Xe (d.tm t).1.2.2.2.1:=by
  unfold Nd.tm qL
  split
  · unfold Ab3
    split
    · exact u0
    · exact Apd h
  · unfold uD
    split
    · exact u0
    split
    · exact u0
    split
    · exact u0
    · exact hS
theorem Anq{d:Nd}(h:EI d.e d.l)(hS:Yu d):Xe d.time.1.2.2.2.1:=by
  unfold Nd.time
  split
  · exact u0
  · exact Aqr h hS _
theorem Ot.n{w:World}{O X:NP}{M:NB}{br bE:Nat}{d:Nd}{tai:Int}(h:RN w O M br bE X d)(hG:Xn d)(hl:d.jobs.length≤100){k:TR Si→WP}
    (hk: ∀w',RN w' O M br bE X (d.fix tai).1→Nx (MO M O) w (MO M O) w'→k (((d.fix tai).2,()),()) w'):Ae prog F.Ot [pB (M 0),iV tai] w false Si k:=by
  refine Ot.ok ?_
  unfold Ot.wp
  rw[Ac]
  refine h.n0 11 (c:=.b) (x:=d.on) (fun _ _=>rfl) (Ee (fun c=>?_) fun c=>?_)
  · have c:d.on=false:=c
    have e:d.fix tai=(d,10):=by unfold Nd.fix;rw[if_pos c]
    rw[e] at hk
    exact hk w h (Nx.of (Af.refl _))
  have n0: ¬d.on=false:=by have c:d.on=true:=c;rw[c];decide
  rw[Ac]
  refine h.n0 10 (c:=.b) (x:=d.s.gate) (fun _ _=>rfl) (Ee (fun c=>?_) fun c=>?_)
  · have c:d.s.gate=false:=c
    have e:d.fix tai=(d,7):=by unfold Nd.fix;rw[if_neg n0,if_pos c]
    rw[e] at hk
    exact hk w h (Nx.of (Af.refl _))
  have n1: ¬d.s.gate=false:=by have c:d.s.gate=true:=c;rw[c];decide
  refine Iz.n h fun w6 u6=>Ad fun p7 w8 e7 k7 u8=>k7.Fg (encs K5 (Yc d.time.1)) rfl rfl fun w9 k9 u9=>?_
  have g9:Af w w9:=Af.fresh u6 u8 u9 e7
  have H9:=h.Ai g9
  refine bK (fun c=>?_) fun c=>?_
  · have c:d.time.2≠0:=c
    have e:d.fix tai=(d,d.time.2):=by unfold Nd.fix;rw[if_neg n0,if_neg n1,if_pos c]
    rw[e] at hk
    exact hk w9 H9 (Nx.of g9)
  have c: ¬d.time.2≠0:=fun q=>q c
  obtain⟨a,ea⟩: ∃a,a=d.mkA d.time.1 tai:=⟨_,rfl⟩
  have f0:okF (mG a)=false→d.fix tai=(d,1):=fun hf=>by unfold Nd.fix;rw[if_neg n0,if_neg n1,if_neg c,←ea,if_pos hf]
  have f1:okF (mG a)=true→d.fix tai=({d with bh:=true,ba:=a}:Nd).pass:=fun hf=>by unfold Nd.fix;rw[if_neg n0,if_neg n1,if_neg c,←ea,if_neg (by rw[hf];decide)]
  have l7:=h.lt
  have np7: ∀i,i<7→p7≠M i:=fun i hi e=>by have:=l7 (M i) (Xx M O i hi);have:=u6.size;omega
  rw[Ap,Ac]
  have H:=H9.drew
  have K:=k9.drew
  have G:=g9.trans (Af.drew w9)
  have s9:w9.drew.heap.size=w9.heap.size:=rfl
  have lH:=H.lt
  generalize w9.drew=w10 at*
  obtain⟨sW,sJ,h0,_⟩:=H.ex
  refine H.n0 18 (c:=.p) (x:=some ⟨M 5,0,none⟩) (fun _ _=>rfl) ?_
  rw[Ac]
  refine H.me (K.c1 2 (c:=KI) (x:=d.time.1.2.2.1) rfl (K.c1 3 (c:=KU) (x:=d.time.1.2.2.2.1) rfl (K.c0 (c:=KI) (x:=d.time.1.1) rfl ?_)))
  have HK: ∀{S:NP} {w':World},Am S w10 w'→ ¬S p7→ ¬S (M 0)→Hold [(14,⟨p7,0,none⟩,(w10.cell? ⟨p7,0,none⟩).getD undef),(12,Addr.add ⟨p7,0,none⟩ 3,(w10.cell? (Addr.add ⟨p7,0,none⟩ 3)).getD undef),(10,Addr.add ⟨p7,0,none⟩ 2,(w10.cell? (Addr.add ⟨p7,0,none⟩ 2)).getD undef),(8,⟨M 0,0,none⟩,(w10.cell? ⟨M 0,0,none⟩).getD undef),(3,Addr.add ⟨M 0,0,none⟩ 18,(w10.cell? (Addr.add ⟨M 0,0,none⟩ 18)).getD undef)] w':=fun u n1 n2=>
    ⟨K.hold u n1 0 (by rw[Ak];decide),K.hold u n1 3 (by rw[Ak];decide),K.hold u n1 2 (by rw[Ak];decide),h0.hold u n2 0 (by rw[S9];decide),h0.hold u n2 18 (by rw[S9];decide),trivial⟩
  have bz:d.bh=false→d.ba.2.1=0:=fun hb=>by rw[H.bz hb];rfl
  refine⟨?_,?_⟩
  · refine Ip.n (a:=d.ba) (n:=a) bz hG.bk.1 H.kb ea (fun hf w19 k19 u19=>⟨HK u19 (np7 5 (by decide)) (H.ne 0 5),?_⟩) fun hf w19 u19=>⟨HK u19 (fun x=>x) (fun x=>x),?_⟩
    · rw[f1 hf] at hk
      refine Ad fun p20 w21 e20 k20 u21=>⟨HK (Am.Ai u19 u21) (np7 5 (by decide)) (H.ne 0 5),k20.Fg (encs Uo (Fr.anchor a).pl) rfl rfl fun w22 k22 u22=>⟨trivial,k22.c0 (c:=KI) (x:=6) rfl (Jl rfl ?_)⟩⟩
      have g22:Af w19 w22:=Af.fresh (Af.refl _) u21 u22 e20
      exact Gx.n ((H.Aa7 k19 u19).Ai g22) hl fun w25 H25 X25=>hk w25 H25 ((Nx.pre G ((RN.nx 5 (by decide) u19).Ai g22)).trans X25)
    · rw[f0 hf] at hk
      refine Ad fun p20 w21 e20 k20 u21=>⟨HK (u19.trans u21) (fun x=>x) (fun x=>x),k20.Fg (encs Uo pl0) rfl rfl fun w22 k22 u22=>⟨trivial,k22.c0 (c:=KI) (x:=0) rfl (Vt rfl ?_)⟩⟩
      have g22:Af w10 w22:=Af.fresh u19 u21 u22 e20
      exact hk w22 (H.Ai g22) (Nx.of (G.trans g22))
  · refine Ad fun p26 w27 e26 k26 u27=>⟨HK u27 (fun x=>x) (fun x=>x),?_⟩
    have HX:RN w27 O M br bE (fun z=>X z∨z=p26) d:=H.far u27 (fun _ _ x=>x.elim) (fun z hz=>hz.elim .inl fun q=>.inr (by omega)) fun z hz=>hz.elim (fun q=>Nat.lt_of_lt_of_le (H.xl z q).1 u27.size) fun q=>by have:=k26.lt;omega
    have n26:p26≠M 5:=fun e=>by have:=lH (M 5) (Xx M O 5);omega
    refine Ip.n (a:=d.ba) (n:=a) bz hG.bk.1 HX.kb ea (fun hf w29 k29 u29=>⟨trivial,?_⟩) fun hf w29 u29=>⟨trivial,?_⟩
    · rw[f1 hf] at hk
      refine(k26.upd u29 n26).Fg (encs Uo (Fr.anchor a).pl) rfl rfl fun w30 k30 u30=>⟨trivial,k30.c0 (c:=KI) (x:=6) rfl (Jl rfl ?_)⟩
      have H30:=(HX.Aa7 k29 u29).far u30 (X':=X) (fun z hz hh=>.inr hh) (fun z hz=>.inl (.inl hz)) fun z hz=>Nat.lt_of_lt_of_le ((HX.Aa7 k29 u29).xl z (.inl hz)).1 u30.size
      have N30:Nx (MO M O) w (MO M O) w30:=(Nx.pre (G.trans u27) (RN.nx 5 (by decide) u29)).upL (L:=w10.heap.size) (u30.mono fun z hz=>by omega) G.size
      exact Gx.n H30 hl fun w33 H33 X33=>hk w33 H33 (N30.trans X33)
    · rw[f0 hf] at hk
      refine(k26.Ai u29).Fg (encs Uo pl0) rfl rfl fun w30 k30 u30=>⟨trivial,k30.c0 (c:=KI) (x:=0) rfl (Vt rfl ?_)⟩
      have g30:Af w10 w30:=Am.new (Am.Bj (u27.trans u29)) u30 fun hh=>by omega
      exact hk w30 (H.Ai g30) (Nx.of (G.trans g30))
def rnL(s:nS)(on:Bool)(boot:Int)(a b c d e f g sW sJ:Value):List Value:=kD s++[.bool on,uV boot,a,b,c,d,e,f,g,sW,sJ]
theorem Zw(s:nS)(on:Bool)(boot:Int)(a b c d e f g sW sJ:Value):(rnL s on boot a b c d e f g sW sJ).length=22:=rfl
theorem Io.n{n:Nat}{s:nS}{lp:Option Addr}{on:Bool}{boot raw:Int}{a b c d e f g sW sJ:Value}(hg:Yj s=true)(hb:Xe boot){w:World}(hB:Az w n (rnL s on boot a b c d e f g sW sJ)){X:NP}(hX: ∀z,X z→z<w.heap.size∧z≠n){k:TR []→WP}
    (hk: ∀w' O M br bE,M 0=n→RN w' O M br bE X (Ajf s lp on boot raw)→(∀z,MO M O z→z=n∨w.heap.size≤z)→Am (fun z=>z=n) w w'→k () w'):Ae prog F.Io [pB n,iV raw] w true [] k:=by
  refine Io.ok ?_
  unfold Io.wp
  obtain⟨m0,m1,gf,gp,l1,l2,j1,j2⟩:=Uj.1 hg
  have ln:=hB.lt
  rw[Ac]
  refine hB.cN 0 (cs:=KSt) (stT s) rfl (Ad fun p3 w4 e3 k3 u4=>k3.Fg (encs KSt (stT s)) rfl rfl fun w5 k5 u5=>?_)
  have g5:Af w w5:=Af.fresh (Af.refl _) u4 u5 e3
  have z5:=g5.size
  have l3:=k5.lt
  refine k5.c1 4 (c:=KI) (x:=s.drift) rfl (Ad fun p7 w8 e7 k7 u8=>?_)
  change Az w8 p7 (rcC s.drift raw) at k7
  have l7:=k7.lt
  rw[Ac]
  refine((hB.Ai g5).Ai u8).sN 13 [pB p7] (by rw[Zw];show 14≤22;decide) rfl fun w10 k10 u10=>?_
  change Az w10 n (rnL s on boot (pB p7) b c d e f g sW sJ) at k10
  have z10:=u10.size
  have U10:Am (fun z=>z=n) w w10:=Am.trans (Am.Bj (g5.trans u8)) u10 fun _ _ x=>x
  rw[Ap]
  have b3:=((k5.Ai u8).upd u10 (by omega)).drew
  have b7:=(k7.upd u10 (by omega)).drew
  have k10:=k10.drew
  have U10:=U10.drew
  have s10:w10.drew.heap.size=w10.heap.size:=rfl
  generalize w10.drew=w11 at*
  refine b3.c0 (c:=KI) (x:=s.me) rfl (b3.c1 1 (c:=KI) (x:=s.tmo) rfl (b3.c1 2 (c:=KI) (x:=s.ign) rfl (b3.c1 3 (c:=KI) (x:=s.need) rfl (b3.c1 4 (c:=KI) (x:=s.drift) rfl ?_))))
  rw[Ac]
  refine k10.c1 12 (c:=KU) (x:=boot) rfl (Wn.cw m0 m1 gf hb fun O0 br bE w20 F20 L20 u20=>⟨trivial,?_⟩)
  have z20:=u20.size
  have M20:=F20.lt
  have no: ∀z,O0 z→z≠n:=fun z hz=>by have:=L20 z hz;omega
  rw[Ac]
  refine(k10.Ai u20).sN 14 [pB br] (by rw[Zw];show 15≤22;decide) rfl fun w22 k22 u22=>⟨trivial,?_⟩
  change Az w22 n (rnL s on boot (pB p7) (pB br) c d e f g sW sJ) at k22
  have z22:=u22.size
  have U22:Am (fun z=>z=n) w w22:=Am.trans (U10.Ai u20) u22 fun _ _ x=>x
  have b3:=(b3.Ai u20).upd u22 (by omega)
  have b7:=(b7.Ai u20).upd u22 (by omega)
  have F22:=F20.upd u22 no
  refine b3.c0 (c:=KI) (x:=s.me) rfl (Wq.cl fun p24 w25 e24 k24 u25=>?_)
  have l24:=k24.lt
  rw[Ac]
  refine(k22.Ai u25).sN 15 [pB p24] (by rw[Zw];show 16≤22;decide) rfl fun w27 k27 u27=>?_
  change Az w27 n (rnL s on boot (pB p7) (pB br) (pB p24) d e f g sW sJ) at k27
  have z27:=u27.size
  have U27:Am (fun z=>z=n) w w27:=Am.trans (U22.Ai u25) u27 fun _ _ x=>x
  have b3:=(b3.Ai u25).upd u27 (by omega)
  have b7:=(b7.Ai u25).upd u27 (by omega)
  have F27:=(F22.Ai u25).upd u27 no
  have b24:=k24.upd u27 (by omega)
  refine b3.c0 (c:=KI) (x:=s.me) rfl (Ad fun p29 w30 e29 k29 u30=>?_)
  change Az w30 p29 (gG (prN s.me)) at k29
  have l29:=k29.lt
  rw[Ac]
  refine(k27.Ai u30).sN 16 [pB p29] (by rw[Zw];show 17≤22;decide) rfl fun w32 k32 u32=>?_
  change Az w32 n (rnL s on boot (pB p7) (pB br) (pB p24) (pB p29) e f g sW sJ) at k32
  have z32:=u32.size
  have U32:Am (fun z=>z=n) w w32:=Am.trans (U27.Ai u30) u32 fun _ _ x=>x
  have b3:=(b3.Ai u30).upd u32 (by omega)
  have b7:=(b7.Ai u30).upd u32 (by omega)
  have F32:=(F27.Ai u30).upd u32 no
  have b24:=(b24.Ai u30).upd u32 (by omega)
  have b29:=k29.upd u32 (by omega)
  refine b3.c1 8 (c:=KI) (x:=s.lim) rfl (Ad fun p34 w35 e34 k34 u35=>?_)
  change Az w35 p34 (fA (so0 s.lim)) at k34
  have l34:=k34.lt
  rw[Ac]
  refine(k32.Ai u35).sN 17 [pB p34] (by rw[Zw];show 18≤22;decide) rfl fun w37 k37 u37=>?_
  change Az w37 n (rnL s on boot (pB p7) (pB br) (pB p24) (pB p29) (pB p34) f g sW sJ) at k37
  have z37:=u37.size
  have U37:Am (fun z=>z=n) w w37:=Am.trans (U32.Ai u35) u37 fun _ _ x=>x
  have b7:=(b7.Ai u35).upd u37 (by omega)
  have F37:=(F32.Ai u35).upd u37 no
  have b24:=(b24.Ai u35).upd u37 (by omega)
  have b29:=(b29.Ai u35).upd u37 (by omega)
  have b34:=k34.upd u37 (by omega)
  refine Ad fun p38 w39 e38 k38 u39=>?_
  change Az w39 p38 (encs Uo (bkP false a60)) at k38
  have l38:=k38.lt
  rw[Ac]
  refine(k37.Ai u39).sN 18 [pB p38] (by rw[Zw];show 19≤22;decide) rfl fun w41 k41 u41=>?_
  change Az w41 n (rnL s on boot (pB p7) (pB br) (pB p24) (pB p29) (pB p34) (pB p38) g sW sJ) at k41
  have z41:=u41.size
  have U41:Am (fun z=>z=n) w w41:=Am.trans (U37.Ai u39) u41 fun _ _ x=>x
  have b7:=(b7.Ai u39).upd u41 (by omega)
  have F41:=(F37.Ai u39).upd u41 no
  have b24:=(b24.Ai u39).upd u41 (by omega)
  have b29:=(b29.Ai u39).upd u41 (by omega)
  have b34:=(b34.Ai u39).upd u41 (by omega)
  have b38:=k38.upd u41 (by omega)
  refine Ad fun p42 w43 e42 k42 u43=>?_
  have l42:=k42.lt
  rw[Ac]
  refine(k41.Ai u43).sN 19 [pB p42] (by rw[Zw];show 20≤22;decide) rfl fun w45 k45 u45=>?_
  rw[Ac]
  refine k45.sN 20 [.slice none 0 0] (by rw[I8,Zw];show 21≤22;decide) rfl fun w47 k47 u47=>?_
  rw[Ac]
  refine k47.sN 21 [.slice none 0 0] (by rw[I8,I8,Zw];show 22≤22;decide) rfl fun w49 k49 u49=>?_
  change Az w49 n (rnL s on boot (pB p7) (pB br) (pB p24) (pB p29) (pB p34) (pB p38) (pB p42) (.slice none 0 0) (.slice none 0 0)) at k49
  have V:Am (fun z=>z=n) w43 w49:=Am.trans (Am.trans u45 u47 fun _ _ x=>x) u49 fun _ _ x=>x
  have U49:Am (fun z=>z=n) w w49:=Am.trans (U41.Ai u43) V fun _ _ x=>x
  have b7:=(b7.Ai u43).upd V (by omega)
  have F49:=(F41.Ai u43).upd V no
  have b24:=(b24.Ai u43).upd V (by omega)
  have b29:=(b29.Ai u43).upd V (by omega)
  have b34:=(b34.Ai u43).upd V (by omega)
  have b38:=(b38.Ai u43).upd V (by omega)
  have b42:=k42.upd V (by omega)
  have z8:=u8.size
  have z25:=u25.size
  have z30:=u30.size
  have z35:=u35.size
  have z39:=u39.size
  have z43:=u43.size
  obtain⟨L,eL⟩: ∃L:List Nat,L=[n,p7,p24,p29,p34,p38,p42]:=⟨_,rfl⟩
  have nd:L.Nodup:=by rw[eL];simp;omega
  have hM: ∀i,i<7→L.getD i 0=n∨(w.heap.size≤L.getD i 0∧(L.getD i 0<w11.heap.size∨w20.heap.size≤L.getD i 0)):=fun i hi=>by
    have:i=0∨i=1∨i=2∨i=3∨i=4∨i=5∨i=6:=by omega
    rw[eL]
    rcases this with rfl|rfl|rfl|rfl|rfl|rfl|rfl
    · exact .inl rfl
    · exact .inr ⟨by show w.heap.size≤p7;omega,.inl (by show p7<_;omega)⟩
    · exact .inr ⟨by show w.heap.size≤p24;omega,.inr (by show _≤p24;omega)⟩
    · exact .inr ⟨by show w.heap.size≤p29;omega,.inr (by show _≤p29;omega)⟩
    · exact .inr ⟨by show w.heap.size≤p34;omega,.inr (by show _≤p34;omega)⟩
    · exact .inr ⟨by show w.heap.size≤p38;omega,.inr (by show _≤p38;omega)⟩
    · exact .inr ⟨by show w.heap.size≤p42;omega,.inr (by show _≤p42;omega)⟩
  have hMO: ∀z,MO (fun i=>L.getD i 0) O0 z→z=n∨w.heap.size≤z:=by
    rintro z (⟨i,hi,rfl⟩|hz)
    · exact(hM i hi).elim .inl fun q=>.inr q.1
    · exact .inr (by have:=L20 z hz;omega)
  refine hk w49 O0 (fun i=>L.getD i 0) br bE (by rw[eL];rfl) ⟨⟨(none,0,0),(none,0,0),?_,DQ.nil _ _ _,DQ.nil _ _ _⟩,?_,F49,?_,?_,⟨so0 s.lim,⟨rfl,rfl,fun _=>rfl⟩,?_⟩,?_,⟨(none,0,0),(none,0,0),?_,DQ.nil _ _ _,DQ.nil _ _ _⟩,fun _=>rfl,?_,?_,?_⟩ hMO U49
  · subst eL;exact k49
  · subst eL;exact b7
  · subst eL;exact b24
  · subst eL;exact b29
  · subst eL;exact b34
  · subst eL;exact b38
  · subst eL;exact b42
  · intro i j hi hj e
    exact uY nd (by rw[eL];exact hi) (by rw[eL];exact hj) e
  · intro i hi ho
    have h1:=L20 _ ho
    have h2:=M20 _ ho
    rcases hM i hi with q|⟨q,q2⟩<;>omega
  · intro z hz
    have h1:=hX z hz
    have:=U49.size
    exact⟨by omega,fun e=>by have:=hMO z e;omega⟩
theorem Ut.n{s:nS}{lp:Option Addr}(hg:Yj s=true){w:World}{X:NP}(hX: ∀z,X z→z<w.heap.size){k:TR RPp→WP}
    (hk: ∀w' O M br bE,RN w' O M br bE X (Ajf s lp false 0 0)→(∀z,MO M O z→w.heap.size≤z)→Af w w'→k ((some ⟨M 0,0,none⟩,()),()) w'):Ae prog F.Ut [.agg (kD s).toArray] w false RPp k:=by
  refine Ut.ok ?_
  unfold Ut.wp
  refine Ad fun p1 w2 e1 k1 u1=>k1.cN 0 (cs:=KSt) (stT s) rfl (Ad fun p4 w5 e4 k4 u5=>?_)
  have z2:=u1.size
  have z5:=u5.size
  have l4:=k4.lt
  refine Io.n (n:=p4) (s:=s) (lp:=lp) (on:=false) (boot:=0) (a:=.pointer none) (b:=.pointer none) (c:=.pointer none) (d:=.pointer none) (e:=.pointer none) (f:=.pointer none) (g:=.pointer none) (sW:=.slice none 0 0) (sJ:=.slice none 0 0) hg u0 k4 (X:=X) (fun z hz=>by have:=hX z hz;omega) fun w7 O M br bE e0 H hl U=>?_
  rw[←e0]
  exact hk w7 O M br bE H (fun z hz=>by rcases hl z hz with q|q<;>omega) (Am.trans (u1.trans u5) U fun i hi hh=>by omega)
theorem Gz.n{w:World}{O X:NP}{M:NB}{br bE:Nat}{d:Nd}{raw:Int}(h:RN w O M br bE X d)(hG:Xn d)(hF:Y8 d)(h0:0≤raw)(h1:raw<4294967296){k:TR []→WP}
    (hk: ∀w' O' M' br' bE',M' 0=M 0→RN w' O' M' br' bE' X (d.turn raw)→Nx (MO M O) w (MO M' O') w'→k () w'):Ae prog F.Gz [pB (M 0),.int .u32 raw] w true [] k:=by
  refine Gz.ok ?_
  unfold Gz.wp
  obtain⟨sW,sJ,k0,_⟩:=h.ex
  have hxl:=h.xl
  rw[Ac]
  refine k0.sN 11 [.bool true] (by rw[S9];show 12≤22;decide) rfl fun w2 k2 u2=>?_
  rw[Ac]
  refine k2.c1 12 (c:=KU) (x:=d.boot) rfl ?_
  rw[Ac]
  refine k2.sN 12 [_] (by rw[I8,S9];show 13≤22;decide) rfl fun w6 k6 u6=>?_
  have e:wrap .i64 raw=raw:=Ah (by unfold I64;omega)
  rw[e]
  have U:Am (fun z=>z=M 0) w w6:=Am.trans u2 u6 fun _ _ x=>x
  have hM:=Xx M O 0
  refine Io.n (n:=M 0) (s:=d.s) (lp:=d.lp) (on:=true) (boot:=wrap .u16 (d.boot+1)) hG.s (Aaf _) k6 (X:=X) (fun z hz=>⟨Nat.lt_of_lt_of_le (hxl z hz).1 U.size,fun e=>(hxl z hz).2 (e▸hM)⟩) fun w8 O' M' br' bE' e0 H hl U8=>?_
  rw[←Ann hG hF] at H
  refine hk w8 O' M' br' bE' e0 H ⟨(Am.trans U U8 fun _ _ x=>x).mono fun z hz=>by rw[hz];exact hM,fun z hz=>?_⟩
  rcases hl z hz with q|q
  · exact .inl (by rw[q];exact hM)
  · exact .inr (Nat.le_trans U.size q)
end Go.Proofs.YtnjmfbjgcfnanaaGreat
