/- Merged texts: Zg9 Rp1 Ze12 Zg10. No statement of the program is proved here. -/
import Derived.Test.YtbkgnekfigknhaaGreatDoorR22
import Derived.Lib.Replace
set_option linter.unusedSimpArgs false
set_option linter.unusedVariables false
set_option maxRecDepth 100000
set_option maxHeartbeats 8000000
section
namespace Go.Proofs.YtbkgnekfigknhaaGreatDoor
open Go Go.Mor
section
open Go.RowKit Go.Sh Go.Sh.Cd1 Go.Sh.Cd6
theorem zs8(L:List V)(k:Nat)(t:V)(h:k<L.length):List.take (k*4) (vC L)++[TV.pv (.v (.int .i64 t.k)),TV.pv (.v (.int .i64 t.n)),TV.pv (.v (.string (str t.s))),TV.pv (.sl 4 (V.rows t.l))]++List.drop (k*4+4) (vC L)=vC (L.set k t):=by
 induction L generalizing k with
 |nil=>simp at h
 |cons p L ih=>
  cases k with
  |zero=>rw[List.set_cons_zero,z11,z11];rfl
  |succ k=>
   have:=ih k (by simpa using h);rw[List.set_cons_succ,z11,z11,←this,show(k+1)*4=k*4+4 by omega];rfl
def zcf:List TV:=[TV.pv (.v (.int .i64 0)),TV.pv (.v (.int .i64 0)),TV.pv (.v (.string ⟨#[]⟩)),TV.pv (.v (.slice none 0 0))]
theorem zig:∀(n j:Nat) (c d:TV),(List.replicate n zcf).flatten[j]?=some c→(vC (List.replicate n V.nil))[j]?=some d→Wk c d
 |0,j,c,d,h,_=>by simp at h
 |n+1,j,c,d,h,h'=>by
  rw[List.replicate_succ,List.flatten_cons]at h;rw[List.replicate_succ,z11]at h'
  match j with
  |0=>cases h;cases h';exact .refl _
  |1=>cases h;cases h';exact .refl _
  |2=>cases h;cases h';exact .refl _
  |3=>cases h;cases h';exact z3z 4
  |j+4=>exact zig n j c d (by simpa [zcf]using h) (by simpa using h')
theorem zif(n:Nat):List.map (fgt3 []) (List.replicate n [TV.pv (.v (.int .i64 0)),TV.pv (.v (.int .i64 0)),TV.pv (.v (.string ⟨#[]⟩)),TV.pv (.v (.slice none 0 0))]).flatten=(List.replicate n zcf).flatten:=by
 induction n with
 |zero=>rfl
 |succ n ih=>rw[List.replicate_succ,List.flatten_cons,List.map_append,ih];rfl
theorem zoz(n:Nat):(List.replicate n zcf).flatten.length=(vC (List.replicate n V.nil)).length:=by
 rw[zgp,List.length_replicate]
 induction n with
 |zero=>rfl
 |succ n ih=>rw[List.replicate_succ,List.flatten_cons,List.length_append,ih];simp[zcf];omega
def zil(e R:V):TV:=if e.k=3∨(e.k=6∧e.s=nIf)then tv R else nv R
structure ValsOk(c:Cls)(vals:List V):Prop where
 cl:c.fs.length≤4611686018427387904
 fit:z63 c.fs vals
 few:∀v∈vals,VFew v
def zh8(m:Nat)(c:Cls)(vals:List V)(d:Nat):Prop:=∀e,okE d e=true→ESmall e→(zl c.fs d e).2=true→zC (glE m) 60 [.ptr 1000 0,tv e] [.box (scp c (.sl 4 (V.rows vals)))] (tv (z1g c.fs vals d e)) [.box (scp c (.sl 4 (V.rows vals)))]
theorem zkT{t:V→Ty×Bool}{l:List V}{ps:List Ty}(h:z0z t l=some ps){x:V}(hx:x∈l):(t x).2=true:=by
 obtain⟨i,hi⟩:=List.getElem?_of_mem hx;exact((z7I h).2 i x hi).1
theorem zhW{s:zB}(h:zi s=true):z2A s:=by
 unfold zi at h;simp at h;exact h.1
theorem z5m{v:V}{t:Ty}(h:zI v t=true)(hk:t.k=2):z2A v.s:=by
 have:=(z7o h hk).2.2.2;unfold zi at this;simp at this;exact this.1
theorem z8u{v:V}{t:Ty}(h:zI v t=true)(hk:t.k=1):RgN v.n:=⟨(zfB h hk).2.1,(zfB h hk).2.2.1⟩
theorem ziK{v:V}{t:Ty}(h:zI v t=true)(hk:t.k=1∨t.k=2):VSmall v:=by
 rcases hk with hk|hk
 ·exact(zaD (zfB h hk).2.2.2.2).small
 ·exact(zaD (z7o h hk).2.2.1).small
theorem z84{k a:Int}{t:Ty}(h:(zK k [a] [t]).2=true):t.k=a:=by
 unfold zK at h;split at h
 ·rename_i h1;simpa [z29]using h1
 ·cases h
theorem z3x{k a b:Int}{t u:Ty}(h:(zK k [a,b] [t,u]).2=true):t.k=a∧u.k=b:=by
 unfold zK at h;split at h
 ·rename_i h1;simpa [z29]using h1
 ·cases h
theorem ziF{l:List V}{i:Nat}{y:V}{f:V→V}(h:l[i]?=some y):(l.take (i+1)).map f=(l.take i).map f++[f y]:=by rw[List.take_add_one,h];simp
theorem zk3(m:Nat)(c:Cls)(vals:List V)(hv:ValsOk c vals)(d:Nat)(IH:zh8 m c vals d)(e:V)(he:okE (d+1) e=true)(hs:ESmall e)(ht:(zl c.fs (d+1) e).2=true):
    zC (glE m) 60 [.ptr 1000 0,tv e] [.box (scp c (.sl 4 (V.rows vals)))] (zil e (z1g c.fs vals (d+1) e)) [.box (scp c (.sl 4 (V.rows vals)))]:=by
  obtain⟨hn,hk⟩:=z2G he
  have hl3:e.l.length≤3:=by
    rcases z23 hn with k|k|k|k|k|k
    · rw[(z6C hn k).2.2.2];simp
    · rw[(z5g hn k).2.2];simp
    · rw[(z7P hn k).2.2];simp
    · obtain⟨_,_,a,b,h⟩:=z3M hn k;rw[h];simp
    · obtain⟨_,_,a,h⟩:=z5h hn k;rw[h];simp
    · have h1:=(z4E hn k).2.2
      have h2:=z62 e.s
      omega
  have ht':=ht
  unfold zl at ht'
  obtain⟨ps,hps⟩:∃ps,z0z (zl c.fs d) e.l=some ps:=by
    cases h:z0z (zl c.fs d) e.l with
    |none=>rw[h]at ht';cases ht'
    |some ps=>exact⟨ps,rfl⟩
  rw[hps]at ht'
  simp only at ht'
  obtain⟨hpl,hpa⟩:=z7I hps
  have hKid:∀y∈e.l,zC (glE m) 60 [.ptr 1000 0,tv y] [.box (scp c (.sl 4 (V.rows vals)))] (tv (z1g c.fs vals d y)) [.box (scp c (.sl 4 (V.rows vals)))]:=fun y hy=>IH y (hk y hy) (hs.sub hy) (zkT hps hy)
  have hPF:zau (e.l.map (z1g c.fs vals d)) ps:=⟨by rw[List.length_map,hpl],fun i w t hw ht=>by
    rw[List.getElem?_map]at hw
    obtain⟨x,hx,rfl⟩:=gO hw
    obtain⟨q1,q2⟩:=hpa i x hx
    rw[ht]at q2
    have:=Option.some.inj q2
    exact z5K hv.fit d x t (hk x (gM hx)) (by rw[this,←q1])⟩
  obtain⟨Y,hY⟩:∃Y,zil e (z1g c.fs vals (d+1) e)=Y:=⟨_,rfl⟩
  rw[hY]
  unfold z1g at hY
  unfold scp at*
  refine zo tf_19 ?_
  simp only[vW,seval,cmV,vcC]
  refine⟨⟨by omega,by unfold maxLen;omega⟩,?_⟩
  refine zp (σ:={p:Nat×List V // p.1≤e.l.length∧p.2.length=e.l.length∧(e.l.take p.1).map (z1g c.fs vals d)=p.2.take p.1})
    (fun p=>⟨[(0,.ptr 1000 0),(3,.ptr 3 0),(4,.ptr 4 0),(5,.bs 13 0 e.l.length e.l.length),(15,.pv (.sl 4 (V.rows e.l))),(16,I (e.l.length:Int)),(17,I (p.1.1:Int))],
      [(1000,[S (str c.n),.pv (.sl 4 (flR c.fs)),.pv (.sl 4 (V.rows vals)),callM]),(3,[I e.k,I e.n,S (str e.s),.pv (.sl 4 (V.rows e.l))]),(4,[I 0,I 0,S ⟨#[]⟩,.pv (.v (.slice none 0 0))]),(13,vC p.1.2)],[],[]⟩) (fun p=>e.l.length-p.1.1)
    ⟨(0,List.replicate e.l.length V.nil),Nat.zero_le _,by simp,by simp⟩ ?_ ?_
  · refine ES.Lw.trans ?_ (zrL (k:=13) (ds:=vC (List.replicate e.l.length V.nil)) rfl (by rw[zif];exact zoz _) (by rw[zif];exact zig _))
    exact lwA
  rintro⟨⟨i,L⟩,hi,hL,hT⟩
  simp only at hi hL hT
  by_cases hlt:i<e.l.length
  · have d1:(i:Int)<(e.l.length:Int):=by omega
    obtain⟨y,ey⟩:∃y,e.l[i]?=some y:=⟨_,gE hlt⟩
    have hmem:=gM ey
    have HF:=hKid y hmem
    have w1:=wS i
    have hset:=zs8 L i (z1g c.fs vals d y) (by omega)
    have hsn:(e.l.take (i+1)).map (z1g c.fs vals d)=(L.set i (z1g c.fs vals d y)).take (i+1):=by rw[ziF ey,hT,zg6 L i _ (by omega)]
    simp only[vW,seval,d1,ey,cmV,vcC]
    (with_reducible apply zR);simp only[vW,seval,cmV,vcC];rfl;rfl;exact HF;exact km;simp only[vW,seval,cmV,vcC];rfl
    simp only[vW,seval,cmV,vcC,w1,hset]
    refine⟨by omega,by omega,zc ⟨(i+1,L.set i (z1g c.fs vals d y)),hlt,by simp[hL],hsn⟩ (by show e.l.length-(i+1)<e.l.length-i;omega) ?_⟩
    exact lwA
  · have d1:¬(i:Int)<(e.l.length:Int):=by omega
    obtain rfl:i=e.l.length:=by omega
    rw[List.take_length,←hL,List.take_length]at hT
    rw[hT]at hY hPF
    have hL3:L.length≤3:=by omega
    unfold z9J at hY
    unfold z2m at ht'
    unfold zil at hY
    rcases z23 hn with k|k|k|k|k|k
    · rw[if_neg (by omega),if_neg (by omega),if_neg (by omega),if_neg (by omega),if_neg (by omega),if_neg (by omega)]at hY
      have HN:=z0X (glE m) e.n
      subst hY
      generalize z0r e.n=r at*
      unfold nv at*
      simp only[vW,seval,d1,cmV,vcC,k]
      (with_reducible apply zR);simp only[vW,seval,cmV,vcC];rfl;rfl;exact HN;exact km;simp only[vW,seval,cmV,vcC];rfl
      simp only[vW,seval,cmV,vcC]
    · rw[if_neg (by omega),if_pos k]at hY
      have HN:=z59 (glE m) e.s (by have:=zhW (z5g hn k).2.1;unfold z2A at this;omega)
      subst hY
      generalize z1X e.s=r at*
      unfold nv at*
      simp only[vW,seval,d1,cmV,vcC,k]
      (with_reducible apply zR);simp only[vW,seval,cmV,vcC];rfl;rfl;exact HN;exact km;simp only[vW,seval,cmV,vcC];rfl
      simp only[vW,seval,cmV,vcC]
    · rw[if_pos (Or.inl k),if_neg (by omega),if_pos k]at hY
      rw[if_neg (by omega),if_pos k]at ht'
      have hf:¬fieldAt c.fs e.s<0:=fun h=>by rw[if_pos h]at ht';cases ht'
      have HA:=z4Q (glE m) c e.s hv.cl
      unfold z1L clT B at HA
      rw[if_neg hf]at HA
      obtain⟨f,v,h1,h2,h3,_⟩:=zf2 hv.fit hf
      obtain⟨q,hq⟩:∃q:Nat,fieldAt c.fs e.s=q:=⟨(fieldAt c.fs e.s).toNat,by omega⟩
      rw[hq]at HA hY h2
      rw[Int.toNat_natCast]at hY h2
      rw[z4T h2]at hY
      have HF:=zn5 (glE m) v (hv.few v (gM h2))
      subst hY
      unfold tv at*
      simp only[vW,seval,d1,cmV,vcC,k]
      (with_reducible apply zR);simp only[vW,seval,cmV,vcC];rfl;rfl;exact HA;exact km;simp only[vW,seval,cmV,vcC];rfl
      simp only[vW,seval,cmV,vcC,h2]
      (with_reducible apply zR);simp only[vW,seval,cmV,vcC];rfl;rfl;exact HF;exact km;simp only[vW,seval,cmV,vcC];rfl
      simp only[vW,seval,cmV,vcC]
    · rw[if_neg (by omega),if_neg (by omega),if_neg (by omega),if_pos k]at hY
      rw[if_neg (by omega),if_neg (by omega),if_pos k]at ht'
      obtain⟨_,hb,a,b,hab⟩:=z3M hn k
      have hlen:L.length=2:=by rw[hL,hab];rfl
      have hl2:e.l.length=2:=by rw[hab];rfl
      obtain⟨p,q,rfl⟩:∃p q,L=[p,q]:=by
        match L,hlen with
        |[p,q],_=>exact⟨p,q,rfl⟩
      obtain⟨t,u,rfl⟩:∃t u,ps=[t,u]:=by
        match ps,hpl.trans hl2 with
        |[t,u],_=>exact⟨t,u,rfl⟩
      have fp:zI p t=true:=hPF.2 0 p t rfl rfl
      have fq:zI q u=true:=hPF.2 1 q u rfl rfl
      have HO:zC (glE m) 120 [S (str e.s),tv p,tv q] [] (nv (opV e.s p q)) []:=by
        unfold zbL at ht'
        by_cases h1:e.s=[43]∨e.s=[45]∨e.s=[42]∨e.s=[47]∨e.s=[37]
        · rw[if_pos h1]at ht'
          obtain⟨k0,k1⟩:=z3x ht'
          exact znI (glE m) e.s (z8u fp k0) (z8u fq k1) (by rcases h1 with h|h|h|h|h<;>simp[h])
        · rw[if_neg h1]at ht'
          by_cases h2:e.s=[38]
          · rw[if_pos h2]at ht'
            obtain⟨k0,k1⟩:=z3x ht'
            rw[h2]
            exact znH (glE m) (z5m fp k0) (z5m fq k1)
          · rw[if_neg h2]at ht'
            exact znG (glE m) e.s (ziK fp (zcW (show z1Q t u=true from ht')).2) (by rcases z6Q hb with h|h|h|h|h|h|h|h|h|h|h|h<;>simp[h]at h1 h2 ⊢)
      simp only[List.getD_cons_zero,List.getD_cons_succ]at hY
      subst hY
      generalize opV e.s p q=r at*
      unfold nv tv at*
      simp only[vW,seval,d1,cmV,vcC,k,hl2,z11,z3a]
      (with_reducible apply zR);simp only[vW,seval,cmV,vcC];rfl;rfl;exact HO;exact km;simp only[vW,seval,cmV,vcC];rfl
      simp only[vW,seval,cmV,vcC]
    · rw[if_neg (by omega),if_neg (by omega),if_neg (by omega),if_neg (by omega),if_pos k]at hY
      rw[if_neg (by omega),if_neg (by omega),if_neg (by omega),if_pos k]at ht'
      obtain⟨_,hb,a,hab⟩:=z5h hn k
      have hl1:e.l.length=1:=by rw[hab];rfl
      obtain⟨p,rfl⟩:∃p,L=[p]:=by
        match L,hL.trans hl1 with
        |[p],_=>exact⟨p,rfl⟩
      obtain⟨t,rfl⟩:∃t,ps=[t]:=by
        match ps,hpl.trans hl1 with
        |[t],_=>exact⟨t,rfl⟩
      have fp:zI p t=true:=hPF.2 0 p t rfl rfl
      have rg:=z8u fp (z84 ht')
      unfold RgN at rg
      have w1:IntKind.i64.wrap (0-p.n)= -p.n:=wG
      have HN:=z0X (glE m) (-p.n)
      simp only[List.getD_cons_zero]at hY
      subst hY
      generalize z0r (-p.n)=r at*
      unfold nv at*
      simp only[vW,seval,d1,cmV,vcC,k,hl1,z11,z3a,w1]
      (with_reducible apply zR);simp only[vW,seval,cmV,vcC];rfl;rfl;exact HN;exact km;simp only[vW,seval,cmV,vcC];rfl
      simp only[vW,seval,cmV,vcC]
    · simp only[if_neg (show ¬e.k=2 by omega),if_neg (show ¬e.k=3 by omega),if_neg (show ¬e.k=4 by omega),if_neg (show ¬e.k=5 by omega),if_pos k]at hY
      rw[if_neg (by omega),if_neg (by omega),if_neg (by omega),if_neg (by omega),if_pos k]at ht'
      obtain⟨_,hb,hlen⟩:=z4E hn k
      obtain⟨ym,hy,hlkp⟩:=zoI hb
      rcases z3b hb with hs'|hs'|hs'|hs'|hs'|hs'|hs'|hs'|hs'|hs'<;>rw[hs']at hY ht' hlen hy hlkp
      · have hl1 : e.l.length = 1 := by have : zm z4C = 1 := by decide
                                        omega
        obtain⟨x,rfl⟩:∃x,L=[x]:=by
          match L,hL.trans hl1 with
          |[x],_=>exact⟨x,rfl⟩
        obtain⟨t0,rfl⟩:∃t0,ps=[t0]:=by
          match ps,hpl.trans hl1 with
          |[t0],_=>exact⟨t0,rfl⟩
        obtain rfl:clE (z0c 1 [2]) (fnP 102)=ym:=Option.some.inj hy
        have ht':(zK 1 [2] [t0]).2=true:=ht'
        have f0:zI x t0=true:=hPF.2 0 x t0 rfl rfl
        have k0:=z84 ht'
        have T1:zC (glE m) 102 [.bs 1000 0 1 1] [.box (vC [x])] (nv (z0d z4C [x])) [.box (vC [x])]:=zmv (glE m) (z5m f0 k0)
        rw[if_neg (fun h=>h.elim (fun h=>by omega) fun h=>absurd h.2 (by decide))]at hY
        subst hY
        generalize z0d z4C [x]=r at*
        unfold clE fnP z0c at hlkp
        unfold nv at*
        simp only[vW,seval,d1,cmV,vcC,k,hl1,hs',hlkp]
        (with_reducible apply zG);simp only[vW,seval,cmV,vcC];rfl;exact T1;rfl;simp only[vW,seval,cmV,vcC];rfl
        simp only[vW,seval,cmV,vcC]
      · have hl1 : e.l.length = 1 := by have : zm z1l = 1 := by decide
                                        omega
        obtain⟨x,rfl⟩:∃x,L=[x]:=by
          match L,hL.trans hl1 with
          |[x],_=>exact⟨x,rfl⟩
        obtain⟨t0,rfl⟩:∃t0,ps=[t0]:=by
          match ps,hpl.trans hl1 with
          |[t0],_=>exact⟨t0,rfl⟩
        obtain rfl:clE (z0c 2 [1]) (fnP 112)=ym:=Option.some.inj hy
        have ht':(zK 2 [1] [t0]).2=true:=ht'
        have f0:zI x t0=true:=hPF.2 0 x t0 rfl rfl
        have k0:=z84 ht'
        have T1:zC (glE m) 112 [.bs 1000 0 1 1] [.box (vC [x])] (nv (z0d z1l [x])) [.box (vC [x])]:=zeu (zmA m (z8u f0 k0))
        rw[if_neg (fun h=>h.elim (fun h=>by omega) fun h=>absurd h.2 (by decide))]at hY
        subst hY
        generalize z0d z1l [x]=r at*
        unfold clE fnP z0c at hlkp
        unfold nv at*
        simp only[vW,seval,d1,cmV,vcC,k,hl1,hs',hlkp]
        (with_reducible apply zG);simp only[vW,seval,cmV,vcC];rfl;exact T1;rfl;simp only[vW,seval,cmV,vcC];rfl
        simp only[vW,seval,cmV,vcC]
      · have hl1 : e.l.length = 1 := by have : zm z4D = 1 := by decide
                                        omega
        obtain⟨x,rfl⟩:∃x,L=[x]:=by
          match L,hL.trans hl1 with
          |[x],_=>exact⟨x,rfl⟩
        obtain⟨t0,rfl⟩:∃t0,ps=[t0]:=by
          match ps,hpl.trans hl1 with
          |[t0],_=>exact⟨t0,rfl⟩
        obtain rfl:clE (z0c 1 [2]) (fnP 113)=ym:=Option.some.inj hy
        have ht':(zK 1 [2] [t0]).2=true:=ht'
        have f0:zI x t0=true:=hPF.2 0 x t0 rfl rfl
        have k0:=z84 ht'
        have T1:zC (glE m) 113 [.bs 1000 0 1 1] [.box (vC [x])] (nv (z0d z4D [x])) [.box (vC [x])]:=zmB m (z5m f0 k0)
        rw[if_neg (fun h=>h.elim (fun h=>by omega) fun h=>absurd h.2 (by decide))]at hY
        subst hY
        generalize z0d z4D [x]=r at*
        unfold clE fnP z0c at hlkp
        unfold nv at*
        simp only[vW,seval,d1,cmV,vcC,k,hl1,hs',hlkp]
        (with_reducible apply zG);simp only[vW,seval,cmV,vcC];rfl;exact T1;rfl;simp only[vW,seval,cmV,vcC];rfl
        simp only[vW,seval,cmV,vcC]
      · have hl1 : e.l.length = 2 := by have : zm z1E = 2 := by decide
                                        omega
        obtain⟨x,y,rfl⟩:∃x y,L=[x,y]:=by
          match L,hL.trans hl1 with
          |[x,y],_=>exact⟨x,y,rfl⟩
        obtain⟨t0,t1,rfl⟩:∃t0 t1,ps=[t0,t1]:=by
          match ps,hpl.trans hl1 with
          |[t0,t1],_=>exact⟨t0,t1,rfl⟩
        obtain rfl:clE (z0c 2 [2,1]) (fnP 105)=ym:=Option.some.inj hy
        have ht':(zK 2 [2,1] [t0,t1]).2=true:=ht'
        have f0:zI x t0=true:=hPF.2 0 x t0 rfl rfl
        have f1:zI y t1=true:=hPF.2 1 y t1 rfl rfl
        obtain⟨k0,k1⟩:=z3x ht'
        have T1:zC (glE m) 105 [.bs 1000 0 2 2] [.box (vC [x,y])] (nv (z0d z1E [x,y])) [.box (vC [x,y])]:=zmw (glE m) (z5m f0 k0)
        rw[if_neg (fun h=>h.elim (fun h=>by omega) fun h=>absurd h.2 (by decide))]at hY
        subst hY
        generalize z0d z1E [x,y]=r at*
        unfold clE fnP z0c at hlkp
        unfold nv at*
        simp only[vW,seval,d1,cmV,vcC,k,hl1,hs',hlkp]
        (with_reducible apply zG);simp only[vW,seval,cmV,vcC];rfl;exact T1;rfl;simp only[vW,seval,cmV,vcC];rfl
        simp only[vW,seval,cmV,vcC]
      · have hl1 : e.l.length = 2 := by have : zm z13 = 2 := by decide
                                        omega
        obtain⟨x,y,rfl⟩:∃x y,L=[x,y]:=by
          match L,hL.trans hl1 with
          |[x,y],_=>exact⟨x,y,rfl⟩
        obtain⟨t0,t1,rfl⟩:∃t0 t1,ps=[t0,t1]:=by
          match ps,hpl.trans hl1 with
          |[t0,t1],_=>exact⟨t0,t1,rfl⟩
        obtain rfl:clE (z0c 2 [2,1]) (fnP 108)=ym:=Option.some.inj hy
        have ht':(zK 2 [2,1] [t0,t1]).2=true:=ht'
        have f0:zI x t0=true:=hPF.2 0 x t0 rfl rfl
        have f1:zI y t1=true:=hPF.2 1 y t1 rfl rfl
        obtain⟨k0,k1⟩:=z3x ht'
        have T1:zC (glE m) 108 [.bs 1000 0 2 2] [.box (vC [x,y])] (nv (z0d z13 [x,y])) [.box (vC [x,y])]:=zmx (glE m) (z5m f0 k0) (z8u f1 k1)
        rw[if_neg (fun h=>h.elim (fun h=>by omega) fun h=>absurd h.2 (by decide))]at hY
        subst hY
        generalize z0d z13 [x,y]=r at*
        unfold clE fnP z0c at hlkp
        unfold nv at*
        simp only[vW,seval,d1,cmV,vcC,k,hl1,hs',hlkp]
        (with_reducible apply zG);simp only[vW,seval,cmV,vcC];rfl;exact T1;rfl;simp only[vW,seval,cmV,vcC];rfl
        simp only[vW,seval,cmV,vcC]
      · have hl1 : e.l.length = 2 := by have : zm z1D = 2 := by decide
                                        omega
        obtain⟨x,y,rfl⟩:∃x y,L=[x,y]:=by
          match L,hL.trans hl1 with
          |[x,y],_=>exact⟨x,y,rfl⟩
        obtain⟨t0,t1,rfl⟩:∃t0 t1,ps=[t0,t1]:=by
          match ps,hpl.trans hl1 with
          |[t0,t1],_=>exact⟨t0,t1,rfl⟩
        obtain rfl:clE (z0c 2 [2,1]) (fnP 109)=ym:=Option.some.inj hy
        have ht':(zK 2 [2,1] [t0,t1]).2=true:=ht'
        have f0:zI x t0=true:=hPF.2 0 x t0 rfl rfl
        have f1:zI y t1=true:=hPF.2 1 y t1 rfl rfl
        obtain⟨k0,k1⟩:=z3x ht'
        have T1:zC (glE m) 109 [.bs 1000 0 2 2] [.box (vC [x,y])] (nv (z0d z1D [x,y])) [.box (vC [x,y])]:=zmy (glE m) (z5m f0 k0)
        rw[if_neg (fun h=>h.elim (fun h=>by omega) fun h=>absurd h.2 (by decide))]at hY
        subst hY
        generalize z0d z1D [x,y]=r at*
        unfold clE fnP z0c at hlkp
        unfold nv at*
        simp only[vW,seval,d1,cmV,vcC,k,hl1,hs',hlkp]
        (with_reducible apply zG);simp only[vW,seval,cmV,vcC];rfl;exact T1;rfl;simp only[vW,seval,cmV,vcC];rfl
        simp only[vW,seval,cmV,vcC]
      · have hl1 : e.l.length = 2 := by have : zm z2l = 2 := by decide
                                        omega
        obtain⟨x,y,rfl⟩:∃x y,L=[x,y]:=by
          match L,hL.trans hl1 with
          |[x,y],_=>exact⟨x,y,rfl⟩
        obtain⟨t0,t1,rfl⟩:∃t0 t1,ps=[t0,t1]:=by
          match ps,hpl.trans hl1 with
          |[t0,t1],_=>exact⟨t0,t1,rfl⟩
        obtain rfl:clE (z0c 1 [2,2]) (fnP 110)=ym:=Option.some.inj hy
        have ht':(zK 1 [2,2] [t0,t1]).2=true:=ht'
        have f0:zI x t0=true:=hPF.2 0 x t0 rfl rfl
        have f1:zI y t1=true:=hPF.2 1 y t1 rfl rfl
        obtain⟨k0,k1⟩:=z3x ht'
        have T1:zC (glE m) 110 [.bs 1000 0 2 2] [.box (vC [x,y])] (nv (z0d z2l [x,y])) [.box (vC [x,y])]:=zeu (zmz m (z5m f0 k0))
        rw[if_neg (fun h=>h.elim (fun h=>by omega) fun h=>absurd h.2 (by decide))]at hY
        subst hY
        generalize z0d z2l [x,y]=r at*
        unfold clE fnP z0c at hlkp
        unfold nv at*
        simp only[vW,seval,d1,cmV,vcC,k,hl1,hs',hlkp]
        (with_reducible apply zG);simp only[vW,seval,cmV,vcC];rfl;exact T1;rfl;simp only[vW,seval,cmV,vcC];rfl
        simp only[vW,seval,cmV,vcC]
      · have hl1 : e.l.length = 2 := by have : zm z4X = 2 := by decide
                                        omega
        obtain⟨x,y,rfl⟩:∃x y,L=[x,y]:=by
          match L,hL.trans hl1 with
          |[x,y],_=>exact⟨x,y,rfl⟩
        obtain⟨t0,t1,rfl⟩:∃t0 t1,ps=[t0,t1]:=by
          match ps,hpl.trans hl1 with
          |[t0,t1],_=>exact⟨t0,t1,rfl⟩
        obtain rfl:clE (z0c 1 [1,1]) (fnP 117)=ym:=Option.some.inj hy
        have ht':(zK 1 [1,1] [t0,t1]).2=true:=ht'
        have f0:zI x t0=true:=hPF.2 0 x t0 rfl rfl
        have f1:zI y t1=true:=hPF.2 1 y t1 rfl rfl
        obtain⟨k0,k1⟩:=z3x ht'
        have T1:zC (glE m) 117 [.bs 1000 0 2 2] [.box (vC [x,y])] (nv (z0d z4X [x,y])) [.box (vC [x,y])]:=zmD (glE m)
        rw[if_neg (fun h=>h.elim (fun h=>by omega) fun h=>absurd h.2 (by decide))]at hY
        subst hY
        generalize z0d z4X [x,y]=r at*
        unfold clE fnP z0c at hlkp
        unfold nv at*
        simp only[vW,seval,d1,cmV,vcC,k,hl1,hs',hlkp]
        (with_reducible apply zG);simp only[vW,seval,cmV,vcC];rfl;exact T1;rfl;simp only[vW,seval,cmV,vcC];rfl
        simp only[vW,seval,cmV,vcC]
      · have hl1 : e.l.length = 2 := by have : zm z5D = 2 := by decide
                                        omega
        obtain⟨x,y,rfl⟩:∃x y,L=[x,y]:=by
          match L,hL.trans hl1 with
          |[x,y],_=>exact⟨x,y,rfl⟩
        obtain⟨t0,t1,rfl⟩:∃t0 t1,ps=[t0,t1]:=by
          match ps,hpl.trans hl1 with
          |[t0,t1],_=>exact⟨t0,t1,rfl⟩
        obtain rfl:clE (z0c 1 [1,1]) (fnP 118)=ym:=Option.some.inj hy
        have ht':(zK 1 [1,1] [t0,t1]).2=true:=ht'
        have f0:zI x t0=true:=hPF.2 0 x t0 rfl rfl
        have f1:zI y t1=true:=hPF.2 1 y t1 rfl rfl
        obtain⟨k0,k1⟩:=z3x ht'
        have T1:zC (glE m) 118 [.bs 1000 0 2 2] [.box (vC [x,y])] (nv (z0d z5D [x,y])) [.box (vC [x,y])]:=zka (glE m)
        rw[if_neg (fun h=>h.elim (fun h=>by omega) fun h=>absurd h.2 (by decide))]at hY
        subst hY
        generalize z0d z5D [x,y]=r at*
        unfold clE fnP z0c at hlkp
        unfold nv at*
        simp only[vW,seval,d1,cmV,vcC,k,hl1,hs',hlkp]
        (with_reducible apply zG);simp only[vW,seval,cmV,vcC];rfl;exact T1;rfl;simp only[vW,seval,cmV,vcC];rfl
        simp only[vW,seval,cmV,vcC]
      · have hl1 : e.l.length = 3 := by have : zm nIf = 3 := by decide
                                        omega
        obtain⟨x,y,z,rfl⟩:∃x y z,L=[x,y,z]:=by
          match L,hL.trans hl1 with
          |[x,y,z],_=>exact⟨x,y,z,rfl⟩
        obtain rfl:clE (fnP 115) (fnP 116)=ym:=Option.some.inj hy
        have T1:zC (glE m) 116 [.bs 1000 0 3 3] [.box (vC [x,y,z])] (tv (z0d nIf [x,y,z])) [.box (vC [x,y,z])]:=zmC (glE m)
        rw[if_pos (Or.inr ⟨k,rfl⟩)]at hY
        subst hY
        generalize z0d nIf [x,y,z]=r at*
        unfold clE fnP at hlkp
        unfold tv at*
        simp only[vW,seval,d1,cmV,vcC,k,hl1,hs',hlkp]
        (with_reducible apply zG);simp only[vW,seval,cmV,vcC];rfl;exact T1;rfl;simp only[vW,seval,cmV,vcC];rfl
        simp only[vW,seval,cmV,vcC]
theorem zsU(s:zB)(a b:V):(opV s a b).l=[]:=by
 unfold opV
 repeat' split
 all_goals rfl
theorem zq3{fs:List Fld}{vals ws:List V}{e:V}(h:¬(e.k=3∨(e.k=6∧e.s=nIf))):(z9J fs vals e ws).l=[]:=by
 rw[not_or]at h;unfold z9J;rw[if_neg h.1];split
 ·rfl
 split
 ·exact zsU _ _ _
 split
 ·rfl
 split
 ·rename_i h6;have hs:e.s≠nIf:=fun hs=>h.2 ⟨h6,hs⟩;unfold z0d;simp only[if_neg hs]
  repeat' split
  all_goals rfl
 ·rfl
theorem zgu(m:Nat)(c:Cls)(vals:List V)(hv:ValsOk c vals):∀d,zh8 m c vals d
 |0=>fun e he=>by simp[okE]at he
 |d+1=>fun e he hs ht=>by
  have:=zk3 m c vals hv d (zgu m c vals hv d) e he hs ht;unfold zil at this;split at this
  ·exact this
  ·rename_i hne;exact this.out (z1q (zq3 hne))
end
theorem zab(c:UInt8):∀(s:zB),c∉s→Lib.index s [c]= -1
 |[],_=>rfl
 |b::l,h=>by
  have h2:=zab c l (fun hm=>h (List.mem_cons_of_mem _ hm))
  grind [Lib.index,List.isPrefixOf]
theorem zdl(c:UInt8)(post:zB):∀(pre:zB),c∉pre→Lib.index (pre++c::post) [c]=pre.length
 |[],_=>by simp[Lib.index,List.isPrefixOf]
 |b::l,h=>by
  have h2:=zdl c post l (fun hm=>h (List.mem_cons_of_mem _ hm))
  grind [Lib.index]
theorem z99(c:UInt8)(new:zB):∀(fuel:Nat) (s:zB),s.length<fuel→Lib.replaceK [c] new (Lib.countFrom [c] fuel s) s=s.flatMap fun b=>if b=c then new else [b]
 |0,s,h=>by omega
 |fuel+1,s,h=>by
  have hplain:∀l:zB,c∉l→(l.flatMap fun b=>if b=c then new else [b])=l:=by
   intro l
   induction l<;>grind
  by_cases hm:c∈s
  ·obtain⟨pre,post,rfl,hpre⟩:=List.eq_append_cons_of_mem hm;have hi:=zdl c post pre hpre;have hne:¬(Lib.index (pre++c::post) [c]== -1)=true:=by grind
   unfold Lib.countFrom;rw[if_neg hne,Nat.add_comm,Lib.replaceK_hit _ _ _ _ pre.length hi,hi];have hd:(pre++c::post).drop ((pre.length:Int).toNat+[c].length)=post:=by
    simp
   have hd':(pre++c::post).drop (pre.length+[c].length)=post:=by
    simp
   rw[hd,hd',z99 c new fuel post (by grind)]
   grind
  ·grind [Lib.countFrom,zab,Lib.replaceK]
theorem z55(c:UInt8)(new:zB)(hne:new≠[c])(s:zB):Lib.replaceAll s [c] new=s.flatMap fun b=>if b=c then new else [b]:=by
 unfold Lib.replaceAll Lib.replace Lib.replaceNum Lib.count
 grind [z99]
theorem znX(s:zB):(Lib.replaceAll s [92] [92,92]).length≤2*s.length:=by
 rw[z55 92 _ (by decide)]
 induction s<;>grind
theorem z8o(c:UInt8):∀(fuel:Nat) (s:zB),Lib.countFrom [c] fuel s≤s.length
 |0,s=>by simp[Lib.countFrom]
 |fuel+1,s=>by
  unfold Lib.countFrom;split
  ·omega
  ·rename_i h;have h1:=Lib.index_ge s [c];have h2:Lib.index s [c]≠ -1:=fun e=>h (by grind);have h3:=Lib.index_room s [c] (by omega);have:=z8o c fuel (s.drop ((Lib.index s [c]).toNat+[c].length))
   grind
theorem zbr(c:UInt8)(s:zB):Lib.countB (str s) (str [c])≤s.length:=by
 have:Lib.countB (str s) (str [c])=Lib.count s [c]:=by unfold Lib.countB;rw[str_toList,str_toList]
 rw[this];exact z8o c _ s
section
open Go.RowKit Go.Sh Go.Sh.Cd1 Go.Sh.Cd4 Go.Sh.Cd5
theorem zqt{f:V→Nat}:∀{l:List V} {x:V},x∈l→f x≤(l.map f).sum:=by
 intro l
 induction l<;>grind
theorem zfk(sep:zB)(f:V→zB)(g:V→Nat):∀(l:List V),(∀x∈l,(f x).length≤200*g x)→(Lib.join (l.map f) sep).length≤200*(l.map g).sum+sep.length*l.length:=by
 have hlens:∀(l:List V),(∀x∈l,(f x).length≤200*g x)→Lib.lens (l.map f)≤200*(l.map g).sum:=by
  intro l
  induction l<;>grind [Lib.lens,Nat.mul_add,only]
 intro l h;cases l with
 |nil=>simp[Lib.join_nil]
 |cons x l=>
  have h1:=hlens (x::l) h;rw[List.map_cons,Lib.join_length];rw[List.map_cons]at h1;rw[List.length_map,List.length_cons,Nat.mul_add,Nat.mul_one];omega
theorem rightText_len'{s:zB}(h:zi s=true):s.length≤60:=by grind [zi]
theorem rightName_len'{s:zB}(h:zb s=true):s.length≤60:=by grind [zb]
theorem z8k{s:zB}(h:0<zf s):s.length≤2:=by
 rcases z6Q h with h|h|h|h|h|h|h|h|h|h|h|h<;>subst h<;>decide
theorem zdK{s:zB}(h:0<zm s):s.length≤5∧zm s≤3:=by
 unfold zm at*;split at h
 ·next h1=>rcases h1 with h1|h1|h1<;>subst h1<;>decide
 ·split at h
  ·next h1=>rcases h1 with h1|h1|h1|h1|h1|h1<;>subst h1<;>decide
  ·grind
theorem zlp(s:zB):Lib.replaceAll (Lib.replaceAll s [92] [92,92]) [34] [92,34]=z4c s:=by
 rw[z55 34 _ (by decide),z55 92 _ (by decide)];unfold z4c;rw[List.flatMap_assoc]
 grind
theorem zfS(s:zB):(z4c s).length≤2*s.length:=by
 unfold z4c
 induction s<;>grind
theorem zaI(e:V)(m:Int)(t:zB):(z2r e m t).length≤t.length+2:=by
 grind [z2r,brk]
theorem zcS:∀(d:Nat) (e:V),okE d e=true→(zy d e).length+10≤200*szE d e:=by
 intro d
 induction d with
 |zero=>grind [okE]
 |succ d ih=>
  intro e h;rw[okE,Bool.and_eq_true,List.all_eq_true]at h;obtain⟨hn,hk⟩:=h;unfold zy szE;rcases z23 hn with k|k|k|k|k|k
  ·rw[if_pos k];have:=z6C hn k
   grind [Lib.itoa_length_le]
  ·rw[if_neg (by omega),if_pos k];have:=rightText_len' (z5g hn k).2.1
   grind [zfS,only,List.length_cons,List.length_append,List.length_nil]
  ·rw[if_neg (by omega),if_neg (by omega),if_neg (by omega),if_neg (by omega),if_neg (by omega)];have:=rightName_len' (z7P hn k).2.1;omega
  ·rw[if_neg (by omega),if_neg (by omega),if_neg (by omega),if_pos k];obtain⟨_,hb,a,b,hl⟩:=z3M hn k
   grind [z8k,zaI,zf,zy,only,List.length_cons,List.length_append,List.length_nil]
  ·rw[if_neg (by omega),if_neg (by omega),if_pos k];obtain⟨_,_,a,hl⟩:=z5h hn k
   grind [zaI,zy,only,List.length_cons,List.length_append,List.length_nil,List.getD_cons_zero,List.getD_cons_succ]
  ·rw[if_neg (by omega),if_neg (by omega),if_neg (by omega),if_neg (by omega),if_pos k];obtain⟨_,hb,hl⟩:=z4E hn k;have h3:=zdK hb;have h4:=zfk [44,32] (zy d) (szE d) e.l fun x hx=>by have:=ih x (hk x hx);omega
   grind
def z4F(f:V→zB)(l:List V)(i:Nat):List PV:=(l.take i).map (fun x=>PV.v (.string (str (f x))))++List.replicate (l.length-i) (.v (.string (str [])))
theorem zqb(f:V→zB)(l:List V):pvC (z4F f l 0)=(List.replicate l.length [TV.pv (.v (.string ⟨#[]⟩))]).flatten:=by
 have:∀n,(List.replicate n [TV.pv (.v (.string ⟨#[]⟩))]).flatten=List.replicate n (S (str [])):=by
  intro n
  induction n with
  |zero=>rfl
  |succ n ih=>rw[List.replicate_succ,List.flatten_cons,ih];rfl
 rw[this];simp[z4F,pvC,S]
theorem zdA(f:V→zB)(l:List V)(i:Nat)(h:i≤l.length):(z4F f l i).length=l.length:=by grind [z4F]
theorem zlm(f:V→zB)(l:List V):pvC (z4F f l l.length)=zcO (l.map f):=by simp[z4F,zcO,Function.comp_def]
theorem zjh{f:V→zB}{l:List V}{i:Nat}{x:V}(h:l[i]?=some x):List.take i (pvC (z4F f l i))++[TV.pv (.v (.string (str (f x))))]++List.drop (i+1) (pvC (z4F f l i))=pvC (z4F f l (i+1)):=by
 have hi:i<l.length:=(gJ h).1;rw[z9R (by grind [zdA])];congr 1;have hl:((l.take i).map (fun x=>PV.v (.string (str (f x))))).length=i:=by grind
 unfold z4F;rw[List.set_append_right _ _ (by omega),hl,Nat.sub_self,List.take_add_one,h,show l.length-i=(l.length-(i+1))+1 by omega,List.replicate_succ,List.set_cons_zero];simp
theorem q34':(⟨#[34]⟩:ByteArray)=str [34]:=rfl
theorem q40':(⟨#[40]⟩:ByteArray)=str [40]:=rfl
theorem q41':(⟨#[41]⟩:ByteArray)=str [41]:=rfl
theorem q45':(⟨#[45]⟩:ByteArray)=str [45]:=rfl
theorem q4432':(⟨#[44,32]⟩:ByteArray)=str [44,32]:=rfl
theorem q32':(⟨#[32]⟩:ByteArray)=str [32]:=rfl
theorem zrg(m:Nat)(e:V)(t:zB)(ht:t.length≤100000)(least:Int)(HT:zC (glT m) 53 [.agg [z0u],tv e] [] (S (str t)) []):
  zC (glT m) 93 [.agg [z0u],tv e,I least] [] (S (str (z2r e least t))) []:=by
 by_cases k4:e.k=4
 ·by_cases hb:zf e.s<least
  ·rw[show z2r e least t=brk t from if_pos ⟨k4,hb⟩];unfold brk;obtain⟨k,n,s,l⟩:=e;simp only[Vk,Vs]at k4 hb;subst k4;refine za tf_39 ?_;simp only[vW,seval,bmV,hb];refine zt HT ?_;simp only[vcA,seval,q40',q41'];omega
  ·rw[show z2r e least t=t from if_neg fun h=>hb h.2];obtain⟨k,n,s,l⟩:=e;simp only[Vk,Vs]at k4 hb;subst k4;refine za tf_39 ?_;simp only[vW,seval,bmV,hb];refine zt HT ?_;simp only[vW,seval,bmV,q40',q41']
 ·rw[show z2r e least t=t from if_neg fun h=>k4 h.1];refine za tf_39 ?_;simp only[vW,seval,bmV,k4];refine zt HT ?_;simp only[vW,seval,bmV,q40',q41']
theorem zqv(m:Nat):∀(d:Nat) (e:V),okE d e=true→szE d e≤40→zC (glT m) 53 [.agg [z0u],tv e] [] (S (str (zy d e))) []:=by
 intro d
 induction d with
 |zero=>intro e h;simp[okE]at h
 |succ d ih=>
  intro e h hz;refine za tf_40 ?_;have hI:∀n:Int, -1000000000000000≤n→n≤1000000000000000→zC (glT m) 91 [I n] [] (S (str (Lib.itoa n))) []:=fun n h1 h2=>zhv m n (by omega) (by omega);rw[okE,Bool.and_eq_true,List.all_eq_true]at h;obtain⟨hn,hk⟩:=h;have hz1:∀x∈e.l,szE d x≤39:=fun x hx=>by
   have:=zqt (f:=szE d) hx;unfold szE at hz;omega
  have hx:∀x∈e.l,∀least:Int,zC (glT m) 93 [.agg [z0u],tv x,I least] [] (S (str (z2r x least (zy d x)))) []:=fun x hx least=>by
   have:=zcS d x (hk x hx);have:=hz1 x hx;exact zrg m x _ (by omega) least (ih x (hk x hx) (by omega))
  have hL:∀x∈e.l,∀least:Int,(z2r x least (zy d x)).length≤10000:=fun x hx least=>by
   have:=zcS d x (hk x hx);have:=hz1 x hx;have:=zaI x least (zy d x);omega
  unfold zy;by_cases k1:e.k=1
  ·rw[if_pos k1];have hb:=z6C hn k1;have HI:=hI e.n (by omega) (by omega);simp only[vW,seval,bmV,k1];exact z3i HI
  rw[if_neg k1];by_cases k2:e.k=2
  ·rw[if_pos k2];have hl:=rightText_len' (z5g hn k2).2.1;have l1:=znX e.s;have HR1:=zhV m e.s [92] [92,92] (by omega) (by decide) (by have:=zbr 92 e.s;simp only[List.length_cons,List.length_nil];omega);have HR2:=zhV m (Lib.replaceAll e.s [92] [92,92]) [34] [92,34] (by omega) (by decide) (by have:=zbr 34 (Lib.replaceAll e.s [92] [92,92]);simp only[List.length_cons,List.length_nil];omega);rw[zlp]at HR2;have l2:=zfS e.s;simp only[vW,seval,bmV,k2];refine z05 HR1 ?_;refine zt HR2 ?_;simp only[vW,seval,bmV,q34'];exact⟨by omega,by omega⟩
  rw[if_neg k2];by_cases k5:e.k=5
  ·rw[if_pos k5];obtain⟨_,_,a,hl⟩:=z5h hn k5;have HA:=hx a (by rw[hl];simp) 5;have la:=hL a (by rw[hl];simp) 5;rw[hl,List.getD_cons_zero];obtain⟨k,n,s,l⟩:=e;simp only[Vk,Vl]at k5 hl;subst k5 hl;simp only[vW,seval,bmV];refine zt HA ?_;simp only[vW,seval,bmV,q45'];omega
  rw[if_neg k5];by_cases k4:e.k=4
  ·rw[if_pos k4];obtain⟨_,hb,a,b,hl⟩:=z3M hn k4;have l3:=z8k hb;have b3:=z8l e.s;have w1:IntKind.i64.wrap (zf e.s+1)=zf e.s+1:=wrap64 (by omega) (by omega);have HA:=hx a (by rw[hl];simp) (zf e.s);have la:=hL a (by rw[hl];simp) (zf e.s);have HB:=hx b (by rw[hl];simp) (zf e.s+1);have lb:=hL b (by rw[hl];simp) (zf e.s+1);rw[hl,List.getD_cons_zero,List.getD_cons_succ,List.getD_cons_zero];obtain⟨k,n,s,l⟩:=e;simp only[Vk,Vs,Vl]at k4 hl l3 w1 HA HB la lb ⊢;subst k4 hl;simp only[vW,seval,bmV];refine zt HA ?_;simp only[vW,seval,q32',w1];refine⟨by omega,by omega,by omega,?_⟩;refine z05 HB ?_;refine⟨by omega,?_⟩;simp only[List.append_assoc,List.cons_append,List.nil_append]
  rw[if_neg k4];by_cases k6:e.k=6
  ·rw[if_pos k6];obtain⟨_,hb,hl⟩:=z4E hn k6;have h3:=zdK hb;have h4:=zfk [44,32] (zy d) (szE d) e.l fun x hx=>by have:=zcS d x (hk x hx);omega
   have h5:(e.l.map (szE d)).sum≤40:=by unfold szE at hz;omega
   simp only[List.length_cons,List.length_nil]at h4;have HJ:=zpR m (e.l.map (zy d)) [44,32] (by rw[List.length_map];omega) (by omega);rw[List.length_map,←zlm]at HJ;have HT:∀x∈e.l,zC (glT m) 53 [.agg [z0u],tv x] [] (S (str (zy d x))) []:=fun x hx=>ih x (hk x hx) (by have:=hz1 x hx;omega);obtain⟨k,n,s,l⟩:=e;simp only[Vk,Vs,Vl]at k6 hl h3 h4 h5 HJ HT ⊢;clear hx hL hz1 hk ih hI;subst k6;simp only[vW,seval,bmV];refine⟨⟨by omega,by unfold maxLen;omega⟩,?_⟩;rw[←zqb (zy d)];refine zp (σ:={i:Nat // i≤l.length}) (fun i=>⟨[(2,.ptr 2 0),(3,.ptr 3 0),(7,.bs 68 0 l.length l.length),(70,.pv (.sl 4 (V.rows l))),(71,I (l.length:Int)),(72,I (i.1:Int))],[(2,[z0u]),(3,[I 6,I n,S (str s),.pv (.sl 4 (V.rows l))]),(68,pvC (z4F (zy d) l i.1))],[],[]⟩) (fun i=>l.length-i.1) ⟨0,by omega⟩ ?_ ?_
   ·apply z0o<;>simp[leL,lk,sv,Nat.beq,I,S,ES.kill,has,drp,zD,z7m]
   rintro⟨i,hi⟩;by_cases hlt:i<l.length
   ·have d1:(i:Int)<(l.length:Int):=by omega
    obtain⟨y,ey⟩:∃y,l[i]?=some y:=⟨_,gE hlt⟩
    have HW:=HT y (gM ey);have w1:=wS i;have pl:=zdA (zy d) l i hi;have ps:=zjh (f:=zy d) ey;simp only[vW,seval,bmV,d1,ey];refine zt HW ?_;simp only[vW,seval,bmV,pl,w1,Nat.mul_one,ps];refine⟨by omega,by omega,zc ⟨i+1,by omega⟩ (by show l.length-(i+1)<l.length-i;omega) ?_⟩;exact lwA
   ·have d1:¬(i:Int)<(l.length:Int):=by omega
    obtain rfl:i=l.length:=by omega
    simp only[vW,seval,bmV,d1,q40',q41',q4432'];refine⟨by omega,?_⟩;refine zt HJ ?_;simp only[vW,seval,bmV,q40',q41'];refine⟨by omega,by omega,?_⟩;simp only[List.append_assoc,List.cons_append,List.nil_append]
  rw[if_neg k6];simp only[vW,seval,bmV,k1,k2,k4,k5,k6]
theorem z5R{e:V}(h:z0b e=true):okE 8 e=true∧szE 8 e≤40:=by
 unfold z0b at h
 grind
def prV(e:V):TV:=if z0b e then .tuple [S (str (zy 8 e)),I 0] else .tuple [S (str []),I 50]
theorem znP(m:Nat)(e:V)(he:ESmall e):zC (glT m) 22 [tv e] [] (prV e) []:=by
 have HR:=zpb (z4s m e he);have HB:=z6P (glT m);unfold prV B at*;refine za tf_95 ?_;cases hr:z0b e
 ·rw[hr]at HR;simp only[vW,seval];refine z05 HR ?_;rfl
 ·rw[hr]at HR;have hi:=z5R hr;have HT:=zqv m 8 e hi.1 hi.2;simp only[vW,seval];refine z05 HR ?_;refine z05 HB ?_;exact z3i HT
end
section
open Go.RowKit Go.Sh Go.Sh.Cd1 Go.Sh.Cd6
theorem za5:∀{fs:List Fld} {vs:List V} {k:Nat},(z2C k fs vs).2=0→∀(i:Nat) f v,fs[i]?=some f→vs[i]?=some v→zI v f.t=true
 |[],_,_,_,i,f,v,h,_=>by simp at h
 |_::_,[],_,_,i,f,v,_,h=>by simp at h
 |g::fs,u::vs,k,hk,i,f,v,hf,hv=>by
  unfold z2C at hk;split at hk
  ·rename_i h1;cases i with
   |zero=>cases hf;cases hv;exact h1
   |succ i=>exact za5 hk i f v (by simpa using hf) (by simpa using hv)
  ·cases hk
theorem zfD{all:List Fld}:∀{l:List Fld} {k:Nat},z38 all k l=true→∀f∈l,zF f=true
 |[],_,_,f,h=>by cases h
 |g::l,k,ho,f,h=>by
  rw[z8P]at ho;simp only[Bool.and_eq_true]at ho;rcases List.mem_cons.1 h with rfl|h
  ·exact ho.1.1
  ·exact zfD ho.2 f h
theorem zke{c:Cls}{vs:List V}(h:(check c vs).2=0):z63 c.fs vs:=by
 unfold check at h;split at h
 ·cases h
 rename_i hr;split at h
 ·cases h
 rename_i hl;have hr:ze c=true:=by simpa using hr
 unfold ze at hr;simp only[Bool.and_eq_true]at hr;refine⟨fun f hf=> ?_,by omega,za5 h⟩;have:=zfD hr.2 f hf;unfold zF at this;simp only[Bool.and_eq_true]at this;exact this.1.2
def zex(r:Ty×Int):TV:=.tuple [tyT r.1,I r.2]
theorem zda(m:Nat)(c:Cls)(e:V)(hc:ClsOk c)(he:ESmall e):zC (glE m) 58 [tv e,clT c] [] (zex (z1Y c e)) []:=by
 have H1:=z9T (z4s m e he);have H2:=z0E (glE m) c hc;have H3:=zeL (glE m);have H4:=fun h=>zdR (glE m) c (.v (.slice none 0 0)) hc.len 8 e h he;unfold z1Y;refine za tf_67 ?_;unfold clT zex tyT B at*;cases h1:z0b e
 ·rw[h1]at H1;simp only[vW,seval,cmV];refine z1I H1 ?_;rfl
 rw[h1]at H1;have H4:=H4 (z5R h1).1;rw[if_pos rfl];cases h2:ze c
 ·rw[h2]at H2;simp only[vW,seval,cmV];refine z1I H1 ?_;refine z1I H2 ?_;rfl
 rw[h2]at H2;rw[if_pos rfl];unfold tyB scp B at H4;cases h3:(zl c.fs 8 e).2
 ·rw[h3]at H4;simp only[vW,seval,cmV];refine z1I H1 ?_;refine z1I H2 ?_;refine z1I H3 ?_;refine z1I H4 ?_;rfl
 ·rw[h3]at H4;simp only[vW,seval,cmV];refine z1I H1 ?_;refine z1I H2 ?_;refine z1I H3 ?_;exact zeJ H4
def zej(r:V×Int):TV:=if r.2=0 then .tuple [tv r.1,I 0] else .tuple [nv V.nil,I r.2]
theorem zd9(m:Nat)(c:Cls)(e:V)(vals:List V)(hc:ClsOk c)(he:ESmall e)(hf:∀x∈vals,VFew x∧VOk x)(hl:vals.length≤4611686018427387904):zC (glE m) 25 [tv e,clT c,.pv (.sl 4 (V.rows vals))] [] (zej (z2Q c vals e)) []:=by
 have H1:=zda m c e hc he;have H2:=z9T (z5y m c vals hc (fun x hx=>⟨(hf x hx).2,by have:=(hf x hx).1.len;unfold maxLen;omega⟩) hl);have H3:=zeL (glE m);unfold z2Q;refine za tf_66 ?_;unfold clT zej zex tyT z65 at*;obtain⟨t,ht⟩:∃t,z1Y c e=t:=⟨_,rfl⟩
 obtain⟨k,hk⟩:∃k,check c vals=k:=⟨_,rfl⟩
 rw[ht]at H1 ⊢;rw[hk]at H2 ⊢;by_cases h1:t.2=0
 ·rw[if_neg (c:=t.2≠0) (by omega)];by_cases h2:k.2=0
  ·rw[if_neg (c:=k.2≠0) (by omega)];obtain⟨h3,h4⟩:z0b e=true∧(zl c.fs 8 e).2=true:=by
    unfold z1Y at ht;rw[←ht]at h1;cases h5:z0b e
    ·rw[h5]at h1;cases h1
    ·cases h6:(zl c.fs 8 e).2
     ·rw[h5,h6]at h1;cases h7:ze c<;>rw[h7]at h1<;>cases h1
     ·exact⟨rfl,rfl⟩
   have H4:=zgu m c vals ⟨hc.len,zke (by rw[hk];exact h2),fun v hv=>(hf v hv).1⟩ 8 e (z5R h3).1 he h4;obtain⟨r,hr⟩:∃r,z1g c.fs vals 8 e=r:=⟨_,rfl⟩
   rw[hr]at H4 ⊢;rw[if_pos rfl];unfold scp at H4;unfold tv at*;simp only[vW,seval,cmV];refine z1Z H1 ?_;simp only[vW,seval,cmV,h1];refine z1Z H2 ?_;simp only[vW,seval,cmV,h2];refine z1I H3 ?_;exact zeJ H4
  ·rw[if_pos (c:=k.2≠0) h2,if_neg (c:=k.2=0) h2];simp only[vW,seval,cmV];refine z1Z H1 ?_;simp only[vW,seval,cmV,h1];refine z1Z H2 ?_;simp only[vW,seval,cmV,h2];rfl
 ·rw[if_pos (c:=t.2≠0) h1,if_neg (c:=t.2=0) h1];simp only[vW,seval,cmV];refine z1Z H1 ?_;simp only[vW,seval,cmV,h1];rfl
end
end Go.Proofs.YtbkgnekfigknhaaGreatDoor
end
