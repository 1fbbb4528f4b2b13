/- Merged texts: Pe3 Pe9 S26 Zg2 Bb Vf Zw1 Zy2 Zg3. No statement of the program is proved here. -/
import Derived.Test.YtcpaleaajdilgaaGreatDoorQ19
import Derived.Lib.ItoaLen
import Derived.Lib.ItoaMem
import Derived.Shelf.Strconv.AtoiAll
set_option linter.unusedSimpArgs false
set_option linter.unusedVariables false
set_option maxRecDepth 100000
set_option maxHeartbeats 8000000
section
namespace Go.Mor
open Go
section
theorem zlg(n:Int): -1000000000000000≤zdS n∧zdS n≤1000000000000000:=by grind [zdS]
theorem z1i(n:Int):zD (z0i n) ⟨1,0⟩=true:=by
 have:=zlg n;unfold z0i;simp[zD,z14,z0U,bare,zg,z0L,V.k,V.n,V.s,V.l,this.1,this.2]
theorem z41{s:zB}(h:zh s=true):zD (.mk 2 0 s []) ⟨2,0⟩=true:=by
 simp[zD,z14,z0U,zg,z0L,V.k,V.n,V.s,V.l,h]
theorem zb6{v:V}{t:Ty}(h:zD v t=true):z14 v=true:=by
 unfold zD at h;simp at h;exact h.1.1.1
theorem zct{v:V}{t:Ty}(h:zD v t=true)(hk:t.k≠3)(hk4:t.k≠4):v.k=t.k:=by
 grind [zD,z0L]
theorem z73{v:V}{t:Ty}(h:zD v t=true)(hk:t.k=2):v.k=2∧v.n=0∧v.l=[]∧zh v.s=true:=by
 have h1:=zct h (by omega) (by omega);have h2:=zb6 h
 grind [z14,z0U]
theorem zew{v:V}{t:Ty}(h:zD v t=true)(hk:t.k=1):v.k=1∧ -1000000000000000≤v.n∧v.n≤1000000000000000∧v.s=[]∧v.l=[]:=by
 have h1:=zct h (by omega) (by omega);have h2:=zb6 h
 grind [z14,z0U,bare]
theorem zdd{s:zB}(h:zh s=true):zh (z59 s)=true:=by grind [zdV]
theorem znv{s t:zB}(hs:zh s=true)(ht:zh t=true):zh (z59 (s++t))=true:=by
 obtain⟨gs,h1,rfl,_⟩:=z55 hs;obtain⟨hs',h2,rfl,_⟩:=z55 ht;rw[←List.flatten_append];exact z5Z (h1.app h2)
theorem zlh{s:zB}(hs:zh s=true)(n:Int):zh (z59 (s.take (z1J s n)))=true:=by
 obtain⟨gs,h1,rfl,_⟩:=z55 hs;rw[zms h1];exact z5Z (h1.take _)
theorem zdT{s:zB}(hs:zh s=true)(n:Int):zh (z59 (s.drop (z1J s n)))=true:=by
 obtain⟨gs,h1,rfl,_⟩:=z55 hs;rw[zlp h1];exact z5Z (h1.drop _)
theorem zhC(n:Int):∀b∈Lib.itoa n,32≤b.toNat∧b.toNat<127:=by
 have hd:∀m:Nat,∀b∈Lib.decDigits m,32≤b.toNat∧b.toNat<127:=by
  intro m
  induction m using Nat.strongRecOn with
  |_ m ih=>
   intro b hb;by_cases hm:m<10
   ·rw[Lib.decDigits_one hm]at hb
    grind [zp1]
   ·rw[Lib.decDigits,dif_neg hm,List.mem_append]at hb;rcases hb with hb|hb
    ·grind
    ·simp only[List.mem_cons,List.not_mem_nil,or_false]at hb
     grind [zp1]
 intro b hb;unfold Lib.itoa at hb;split at hb
 ·rcases List.mem_cons.1 hb with rfl|hb<;>grind
 ·grind
theorem zdU(n:Int):zh (z59 (Lib.itoa n))=true:=by
 obtain⟨h1,h2⟩:=zkz (zhC n)
 grind [z5Z]
theorem z1E{k:Int}{ks:List Int}{ps:List Ty}{t:Ty}(h:zE k ks ps=(t,true)):t=⟨k,0⟩∧z22 ps ks=true:=by
 grind [zE]
theorem zf7:∀{ps:List Ty} {ks:List Int} {i:Nat} {t:Ty},z22 ps ks=true→ps[i]?=some t→ks[i]?=some t.k
 |t::l,k::r,0,t',h,e=>by
  cases e;rw[z22,Bool.and_eq_true,beq_iff_eq]at h;simp[h.1]
 |t::l,k::r,i+1,t',h,e=>by
  rw[z22,Bool.and_eq_true]at h;have:=zf7 (ps:=l) (ks:=r) (i:=i) (t:=t') h.2 (by grind)
  grind
 |t::l,[],_,_,h,_=>by simp[z22]at h
 |[],_,_,_,_,e=>by simp at e
theorem z7m{t:V→Ty×Bool}:∀{l:List V} {ps:List Ty},z0X t l=some ps→ps.length=l.length∧∀(i:Nat) x,l[i]?=some x→(t x).2=true∧ps[i]?=some (t x).1
 |[],ps,h=>by cases h;exact⟨rfl,fun i x e=>by simp at e⟩
 |x::l,ps,h=>by
  unfold z0X at h;split at h
  ·rename_i h1;obtain⟨qs,h2,rfl⟩:=gO h;obtain⟨h3,h4⟩:=z7m h2
   grind
  ·cases h
def z5B(fs:List Fld)(vals:List V):Prop:=(∀f∈fs,zg f.t=true)∧vals.length=fs.length∧∀(i:Nat) f v,fs[i]?=some f→vals[i]?=some v→zD v f.t=true
theorem z6P{α:Type}{l:List α}{i:Nat}{x d:α}(h:l[i]?=some x):l.getD i d=x:=by grind
theorem ze1{fs:List Fld}{vals:List V}(hf:z5B fs vals){s:zB}(h:¬fieldAt fs s<0):∃f v,fs[(fieldAt fs s).toNat]?=some f∧vals[(fieldAt fs s).toNat]?=some v∧zD v f.t=true∧f.n=s:=by
 obtain⟨k,hk⟩:∃k:Nat,fieldAt fs s=k:=⟨(fieldAt fs s).toNat,by omega⟩
 obtain⟨f,h1,h2⟩:=z3m _ _ k hk;rw[hk,Int.toNat_natCast];have hlt:k<vals.length:=by rw[hf.2.1];exact(gJ h1).1
 exact⟨f,vals[k],h1,gE hlt,hf.2.2 k f _ h1 (gE hlt),by simpa using h2⟩
theorem z3I{s:zB}(h:0<zq s):s=z4i∨s=z1z∨s=z4j∨s=z1r∨s=z0T∨s=z1q∨s=z34∨s=z4z∨s=z5e∨s=nIf:=by
 unfold zq at h;split at h
 ·grind [z4i,z1z,z4j]
 grind [z1r,z0T,z1q,z34,z4z,z5e,nIf]
theorem zc9{a b:Ty}(h:z1G a b=true):a=b∧(a.k=1∨a.k=2):=by
 unfold z1G z0h at h;obtain⟨ak,ao⟩:=a;obtain⟨bk,bo⟩:=b
 grind
section
variable{fs:List Fld}{vals:List V}
def za6(ws:List V)(ps:List Ty):Prop:=ws.length=ps.length∧∀(i:Nat) w t,ws[i]?=some w→ps[i]?=some t→zD w t=true
theorem z5N{ws:List V}{ps:List Ty}(h:za6 ws ps){i:Nat}(hi:i<ps.length){k:Int}(hk:(ps.getD i ty0).k=k):zD (ws.getD i V.nil) (ps.getD i ty0)=true:=by
 rw[List.getD_eq_getElem?_getD,List.getD_eq_getElem?_getD,gE hi,gE (by rw[h.1];exact hi)];exact h.2 i _ _ (gE (by rw[h.1];exact hi)) (gE hi)
theorem zbQ{ps:List Ty}{ks:List Int}(h:z22 ps ks=true){i:Nat}(hi:i<ps.length):ks[i]?=some (ps.getD i ty0).k:=by
 grind [List.getElem?_eq_getElem,zf7]
theorem zjP(hf:z5B fs vals){e:V}(hn:z0y e=true){ps:List Ty}{ws:List V}(hl:ps.length=e.l.length)(hp:za6 ws ps){t:Ty}(ht:z2G fs e ps=(t,true)):zD (z9n fs vals e ws) t=true:=by
  unfold z2G at ht
  unfold z9n
  rcases z3a hn with k|k|k|k|k|k
  · rw[if_neg (by omega),if_neg (by omega),if_neg (by omega),if_neg (by omega),if_neg (by omega)]at ht ⊢
    cases ht;exact z1i _
  · rw[if_pos k]at ht ⊢
    cases ht;exact z41 (zdd (z7s hn k).2.1)
  · rw[if_neg (by omega),if_pos k]at ht ⊢
    split at ht
    · cases ht
    · rename_i hne
      obtain⟨f,v,h1,h2,h3,_⟩:=ze1 hf hne
      rw[z6P h1]at ht
      cases ht
      rw[z6P h2];exact h3
  · rw[if_neg (by omega),if_neg (by omega),if_pos k]at ht ⊢
    obtain⟨_,hb,a,b,hab⟩:=z69 hn k
    rw[hab]at hl
    have hl:ps.length=2:=hl
    unfold zdq at ht
    unfold opV
    split at ht
    · rename_i h1
      obtain⟨rfl,_⟩:=z1E ht
      rcases h1 with h1|h1|h1|h1|h1<;>simp only[h1]
      · exact z1i _
      · exact z1i _
      · exact z1i _
      · exact z1i _
      · exact z1i _
    · rename_i h1
      rw[not_or,not_or,not_or,not_or]at h1
      rw[if_neg h1.2.1,if_neg h1.1,if_neg h1.2.2.1,if_neg (by rw[not_or];exact h1.2.2.2)]
      split at ht
      · rename_i h2
        rw[if_pos h2]
        obtain⟨rfl,hg⟩:=z1E ht
        have k0:=zbQ hg (i:=0) (by omega)
        have k1:=zbQ hg (i:=1) (by omega)
        simp at k0 k1
        have f0:=z73 (z5N hp (i:=0) (by omega) rfl) k0.symm
        have f1:=z73 (z5N hp (i:=1) (by omega) rfl) k1.symm
        exact z41 (znv f0.2.2.2 f1.2.2.2)
      · rename_i h2
        rw[if_neg h2]
        have:t=⟨1,0⟩:=by injection ht with h1 h2;exact h1.symm
        subst this
        split<;>exact z1i _
  · rw[if_neg (by omega),if_neg (by omega),if_neg (by omega),if_pos k]at ht ⊢
    obtain⟨rfl,_⟩:=z1E ht
    exact z1i _
  · rw[if_neg (by omega),if_neg (by omega),if_neg (by omega),if_neg (by omega),if_pos k]at ht ⊢
    obtain⟨_,hb,hlen⟩:=z6a hn k
    have hc:=z3I hb
    generalize e.s=s at hc ht hlen
    have tx:∀(i:Nat),i<ps.length→(ps.getD i ty0).k=2→zh (ws.getD i V.nil).s=true:=fun i hi hk=>(z73 (z5N hp hi rfl) hk).2.2.2
    have kd:∀{ks:List Int} (i:Nat),z22 ps ks=true→i<ps.length→∀q,ks[i]?=some q→(ps.getD i ty0).k=q:=fun i hg hi q hq=>by
      have:=zbQ hg hi;rw[hq]at this;exact(Option.some.inj this).symm
    rcases hc with rfl|rfl|rfl|rfl|rfl|rfl|rfl|rfl|rfl|rfl
    · obtain⟨rfl,hg⟩:=z1E (show zE 1 [2] ps=(t,true) from ht);exact z1i _
    · obtain⟨rfl,hg⟩:=z1E (show zE 2 [1] ps=(t,true) from ht);exact z41 (zdU _)
    · obtain⟨rfl,hg⟩:=z1E (show zE 1 [2] ps=(t,true) from ht);exact z1i _
    · obtain⟨rfl,hg⟩:=z1E (show zE 2 [2,1] ps=(t,true) from ht)
      have h2 : ps.length = 2 := by have : zq z1r = 2 := by decide
                                    omega
      exact z41 (zlh (tx 0 (by omega) (kd 0 hg (by omega) 2 rfl)) _)
    · obtain⟨rfl,hg⟩:=z1E (show zE 2 [2,1] ps=(t,true) from ht)
      have h2 : ps.length = 2 := by have : zq z0T = 2 := by decide
                                    omega
      exact z41 (zdT (tx 0 (by omega) (kd 0 hg (by omega) 2 rfl)) _)
    · obtain⟨rfl,hg⟩:=z1E (show zE 2 [2,1] ps=(t,true) from ht)
      have h2 : ps.length = 2 := by have : zq z1q = 2 := by decide
                                    omega
      exact z41 (zdT (tx 0 (by omega) (kd 0 hg (by omega) 2 rfl)) _)
    · obtain⟨rfl,hg⟩:=z1E (show zE 1 [2,2] ps=(t,true) from ht);exact z1i _
    · obtain⟨rfl,hg⟩:=z1E (show zE 1 [1,1] ps=(t,true) from ht);exact z1i _
    · obtain⟨rfl,hg⟩:=z1E (show zE 1 [1,1] ps=(t,true) from ht);exact z1i _
    · have h3 : ps.length = 3 := by have : zq nIf = 3 := by decide
                                    omega
      have ht':z27 ps=(t,true):=ht
      unfold z27 at ht'
      split at ht'
      · rename_i h1
        obtain⟨h4,h5⟩:=zc9 h1.2
        cases ht'
        show zD (if(ws.getD 0 V.nil).n≠0 then ws.getD 1 V.nil else ws.getD 2 V.nil) _=true
        split
        · exact z5N hp (by omega) rfl
        · rw[h4];exact z5N hp (by omega) rfl
      · cases ht'
theorem z5j(hf:z5B fs vals):∀(d:Nat) (e:V) (t:Ty),okE d e=true→zl fs d e=(t,true)→zD (z1I fs vals d e) t=true
 |0,e,t,h,_=>by simp[okE]at h
 |d+1,e,t,h,ht=>by
  obtain⟨hn,hk⟩:=z9o h;unfold zl at ht;cases hp:z0X (zl fs d) e.l with
  |none=>grind
  |some ps=>
   rw[hp]at ht;obtain⟨h1,h2⟩:=z7m hp;refine zjP hf hn h1 ⟨by rw[List.length_map,h1],fun i w u hw hu=> ?_⟩ ht;rw[List.getElem?_map]at hw;obtain⟨x,hx,rfl⟩:=gO hw;obtain⟨h3,h4⟩:=h2 i x hx;exact z5j hf d x _ (hk x (gM hx)) (by grind)
end
end
theorem z2x{l:zB}(h:l≠[]):1≤(Lib.decodeL l).2∧(Lib.decodeL l).2≤l.length:=by
 grind [Lib.decodeL_width,Lib.decodeL_le]
theorem zhg:∀(f:Nat) (l:zB) (a:Nat),l.length≤f→z4b f l a=z4b l.length l a:=by
 intro f
 induction f using Nat.strongRecOn with
 |_ f ih=>
  intro l a hl;cases f with
  |zero=>grind
  |succ f=>
   by_cases h:l=[]
   ·grind [z4b]
   ·obtain⟨n,hn⟩:∃n,l.length=n+1:=⟨l.length-1,by have:=List.length_pos_iff.2 h;omega⟩
    grind [z2x,Lib.decodeL,List.length_drop,z4b]
def zbI(l:zB)(a:Nat):Nat:=z4b l.length l a
theorem zj3(l:zB)(a:Nat):zbI l a=if l=[] then a else if 60<(a:Int)+Lib.runeLen ((Lib.decodeL l).1:Int)then a else zbI (l.drop (Lib.decodeL l).2) (a+(Lib.decodeL l).2):=by
 unfold zbI;by_cases h:l=[]
 ·subst h;rfl
 ·obtain⟨n,hn⟩:∃n,l.length=n+1:=⟨l.length-1,by have:=List.length_pos_iff.2 h;omega⟩
  grind [z2x,Lib.decodeL,List.length_drop,z4b,zhg]
theorem zoZ(s:zB):z59 s=s.take (zbI s 0):=rfl
theorem zf0:∀(f:Nat) (l:zB),l.length≤f→z4I f l=z4I l.length l:=by
 intro f
 induction f using Nat.strongRecOn with
 |_ f ih=>
  intro l hl;cases f with
  |zero=>grind
  |succ f=>
   by_cases h:l=[]
   ·grind [z4I]
   ·obtain⟨n,hn⟩:∃n,l.length=n+1:=⟨l.length-1,by have:=List.length_pos_iff.2 h;omega⟩
    grind [z2x,Lib.decodeL,List.length_drop,z4I]
theorem zbu(l:zB):z0V l=if l=[] then 0 else z0V (l.drop (Lib.decodeL l).2)+1:=by
 unfold z0V;by_cases h:l=[]
 ·subst h;rfl
 ·obtain⟨n,hn⟩:∃n,l.length=n+1:=⟨l.length-1,by have:=List.length_pos_iff.2 h;omega⟩
  grind [z2x,Lib.decodeL,List.length_drop,z4I,zf0]
theorem zf1:∀(n:Nat) (l:zB),l.length≤n→z0V l≤l.length:=by
 intro n
 induction n using Nat.strongRecOn with
 |_ n ih=>
  intro l hl;rw[zbu];split
  ·omega
  ·rename_i h;have hd:=z2x h;have h1:(l.drop (Lib.decodeL l).2).length<n:=by grind
   grind
theorem zh3:∀(f:Nat) (l:zB) (a k:Nat) (n:Int),l.length≤f→z48 f l a k n=z48 l.length l a k n:=by
 intro f
 induction f using Nat.strongRecOn with
 |_ f ih=>
  intro l a k m hl;cases f with
  |zero=>grind
  |succ f=>
   by_cases h:l=[]
   ·grind [z48]
   ·obtain⟨n,hn⟩:∃n,l.length=n+1:=⟨l.length-1,by have:=List.length_pos_iff.2 h;omega⟩
    grind [z2x,Lib.decodeL,List.length_drop,z48]
def za9(l:zB)(a k:Nat)(n:Int):Nat:=z48 l.length l a k n
theorem zce(l:zB)(a k:Nat)(m:Int):za9 l a k m=if l=[] then a else if m≤(k:Int)then a else za9 (l.drop (Lib.decodeL l).2) (a+(Lib.decodeL l).2) (k+1) m:=by
 unfold za9;by_cases h:l=[]
 ·subst h;rfl
 ·obtain⟨n,hn⟩:∃n,l.length=n+1:=⟨l.length-1,by have:=List.length_pos_iff.2 h;omega⟩
  grind [z2x,Lib.decodeL,List.length_drop,z48,zh3]
theorem ziN(s:zB)(n:Int):z1J s n=za9 s 0 0 n:=rfl
theorem znm:∀(n:Nat) (l:zB) (a k:Nat) (m:Int),l.length≤n→a≤za9 l a k m∧za9 l a k m≤a+l.length:=by
 intro n
 induction n using Nat.strongRecOn with
 |_ n ih=>
  intro l a k m hl;rw[zce];split
  ·omega
  ·rename_i h;have hd:=z2x h;split
   ·omega
   ·have h1:(l.drop (Lib.decodeL l).2).length<n:=by rw[List.length_drop];omega
    have h2:=ih _ h1 (l.drop (Lib.decodeL l).2) (a+(Lib.decodeL l).2) (k+1) m (Nat.le_refl _);rw[List.length_drop]at h2;omega
theorem zbF(s:zB)(n:Int):z1J s n≤s.length:=by
 have:=(znm _ s 0 0 n (Nat.le_refl _)).2;rw[ziN];omega
end Go.Mor
end

section
namespace Go.Sh
open Go Go.RowKit
def z3d:Nat→Nat→List TV
 |_,0=>[]
 |d,n+1=> .ptr d 0::z3d (d+1) n
theorem zeF:∀(n d j:Nat),j<n→(z3d d n)[j]?=some (.ptr (d+j) 0)
 |0,d,j,h=>by omega
 |n+1,d,0,_=>rfl
 |n+1,d,j+1,h=>by
  rw[z3d,List.getElem?_cons_succ,zeF n (d+1) j (by omega)]
  grind
theorem zeG:∀(n d:Nat),(z3d d n).length=n
 |0,_=>rfl
 |n+1,d=>by rw[z3d,List.length_cons,zeG n (d+1)]
theorem SCalls.frz{P:Program}{g:Glob}{f:Nat}{xs:List TV}{k:Fn}{pss:List (List PV)}(h:SCalls P g f xs [] (.fn k [] (z3d 1000 pss.length)) (pss.map fun ps=> .box (ps.map .pv))):SCalls P g f xs [] (.pv (.fn k [] (pss.map .el))) []:=by
 refine⟨h.1,fun w E vs hG hm hX hl hr=>(h.2 w E vs hG hm hX hl hr).mono ?_⟩;rintro e w' ⟨v,E',h1,h2,h3,h4⟩;have hob:∀(j:Nat) ps,pss[j]?=some ps→z01 (pss.map fun ps=>MO.box (ps.map TV.pv)) (1000+j)=some (ps.map TV.pv):=fun j ps hj=>by
  grind [z01,Nat.add_sub_cancel_left]
 let K':Nat→Nat→Prop:=fun b o=>E'.K b o∨∃(j:Nat) (ps:List PV),pss[j]?=some ps∧b=E'.β (1000+j)∧o<ps.length
 have hk:∀b o u,E'.K b o→w'.cell? ⟨b,o,none⟩=some u→K' b o∧w'.cell? ⟨b,o,none⟩=some u:=fun b o u h1 h2=>⟨.inl h1,h2⟩
 have ho:∀d,¬(start w E [] 0).old d:=fun d h=>by have h1:=h.1;have h2:d<1000+0:=h.2;omega
 refine⟨v,{ E' with K:=K' },h1,⟨fun d cs hd=> ?_,fun d e W n hd=> ?_,fun d d' cs cs' hd=> ?_,fun d d' cs q k cap hd=> ?_,fun d d' q q' k cap cap' hd=> ?_,fun k o hko=> ?_,h2.low,fun k o u a1 a2=>⟨.inl (h2.keep k o u a1 a2).1,(h2.keep k o u a1 a2).2⟩,fun k o hko=> ?_,⟨fun d hd=>absurd hd (ho d),fun d hd=>absurd hd (ho d),fun d e W n hd=>absurd hd (ho d)⟩⟩,?_,⟨fun d h1 h2=> ?_,fun d h1 h2=> ?_,fun d e W n hd=> ?_⟩⟩
 ·simp[z01]at hd
 ·simp[zm]at hd
 ·simp[z01]at hd
 ·simp[z01]at hd
 ·simp[zm]at hd
 ·rcases hko with hko|⟨j,ps,hj,rfl,_⟩
  ·exact h2.lt k o hko
  ·exact(h2.box _ _ (hob j ps hj)).1.lt
 ·rcases hko with hko|⟨j,ps,hj,rfl,_⟩
  ·exact h2.knew k o hko
  ·rcases(h2.box _ _ (hob j ps hj)).2 with h5|h5<;>grind
 ·cases h3 with
  |fn _ _ _ us us' e1 e2 r1 r2=>
   have hus:us=[]:=List.eq_nil_of_length_eq_zero e1.symm;subst hus;rw[zeG]at e2;refine .pv (.fn k [] (pss.map .el) [] us' rfl (by grind) (fun j c v hc=>by simp at hc) (fun j c u hc hu=> ?_));rw[List.getElem?_map]at hc;obtain⟨ps,hps,rfl⟩:=gO hc;have hjl:j<pss.length:=(gJ hps).1;have hrel:=r2 j _ u (zeF pss.length 1000 j hjl) hu;cases hrel;obtain⟨hbx,_⟩:=h2.box _ _ (hob j ps hps);have hcell:∀(i:Nat) c,ps[i]?=some c→∃v,w'.cell? ⟨E'.β (1000+j),i,none⟩=some v∧one v∧RelV w' E'.K c v:=fun i c hi=>by
    obtain⟨v,c1,c2,c3⟩:=hbx.cell i (.pv c) (by grind);cases c3 with|pv c3=>exact⟨v,c1,c2,c3⟩
   refine .el ps (E'.β (1000+j)) 0 (fun i=>(w'.cell? ⟨E'.β (1000+j),i,none⟩).getD undef) (fun i c hi=> ?_) (fun i c hi=> ?_)
   ·grind
   ·obtain⟨v,c1,c2,c3⟩:=hcell i c hi;rw[c1];exact c3.mono hk
 ·grind
 ·grind
 ·simp[zm]at hd
end Go.Sh
end

section
namespace Go.Proofs.YtcpaleaajdilgaaGreatDoor
open Go Go.RowKit Go.Mor Go.Sh
section
open Go.Sh.Cd1 Go.Sh.Cd6
def tyP(t:Ty):List PV:=[.v (.int .i64 t.k),.v (.int .i64 t.o)]
def tyC(ps:List Ty):List TV:=pvC (ps.flatMap tyP)
def inR(l:List Int):List (List PV):=l.map fun n=>[.v (.int .i64 n)]
def tyB(r:Ty×Bool):TV:=.tuple [tyT r.1,B r.2]
theorem zht{ps:List Ty}{i:Nat}{t:Ty}(h:ps[i]?=some t):List.take 2 (List.drop (i*2) (tyC ps))=[I t.k,I t.o]:=by
 induction ps generalizing i with
 |nil=>simp at h
 |cons p ps ih=>
  cases i with
  |zero=>simp at h;subst h;rfl
  |succ i=>
   have:=ih (i:=i) (by simpa using h);rw[←this];show List.take 2 (List.drop ((i+1)*2) (I p.k::I p.o::tyC ps))=_;rw[show(i+1)*2=i*2+2 by omega];rfl
theorem zgQ(ps:List Ty):(tyC ps).length=ps.length*2:=by
 induction ps with
 |nil=>rfl
 |cons p ps ih=>
  show(I p.k::I p.o::tyC ps).length=_;simp[ih];omega
theorem zgO(ids:List Nat)(ps:List Ty):List.map (fgt3 ids) (tyC ps)=tyC ps:=z6W ids _
theorem zgP(ps:List Ty):List.flatMap TV.ids1 (tyC ps)=[]:=z9t _
theorem zgR(ρ:Nat→Option Nat)(ps:List Ty):seqO (TV.ren1 ρ) (tyC ps)=some (tyC ps):=z9u ρ _
theorem zn3(l:List Int)(k:Nat):(inR l)[k]?=(l[k]?).map fun n=>[.v (.int .i64 n)]:=by unfold inR;rw[List.getElem?_map]
theorem zn4(l:List Int):(inR l).length=l.length:=by unfold inR;rw[List.length_map]
theorem tyV:(type_of% @zgO)∧(type_of% @zgP)∧(type_of% @zgR)∧(type_of% @zgQ)∧(type_of% @zn3)∧(type_of% @zn4)∧(type_of% @tyB.eq_1)∧(type_of% @B.eq_1):=⟨@zgO,@zgP,@zgR,@zgQ,@zn3,@zn4,@tyB.eq_1,@B.eq_1⟩
def z08(k:Int)(ks:List Int):TV:=.pv (.fn (.func 211) [] [.el [.sl 1 (inR ks)],.el [.v (.int .i64 k)]])
theorem z2a(g:Sh.Glob)(k:Int)(ks:List Int):zC g 136 [I k,.pv (.sl 1 (inR ks))] [] (z08 k ks) []:=by
 refine SCalls.frz (pss:=[[.sl 1 (inR ks)],[.v (.int .i64 k)]]) ?_;refine zgL tf_92 ?_;rfl
theorem z1d(g:Sh.Glob)(k:Int)(ks:List Int)(ps:List Ty)(hl:ps.length=ks.length)(h60:ps.length≤60):zC g 211 [.bs 1000 0 ps.length ps.length,.pv (.el [.sl 1 (inR ks)]),.pv (.el [.v (.int .i64 k)])] [.box (tyC ps)] (tyB (zE k ks ps)) [.box (tyC ps)]:=by
 obtain⟨R,hR⟩:∃R,zE k ks ps=R:=⟨_,rfl⟩
 rw[hR];refine zp tf_93 ?_;simp only[vW,seval,tyV];refine zw (σ:={i:Nat // i≤ps.length∧(if z22 (ps.drop i) (ks.drop i)then((⟨k,0⟩:Ty),true)else(ty0,false))=R}) (fun i=>⟨[(1,.pv (.el [.sl 1 (inR ks)])),(2,.pv (.el [.v (.int .i64 k)])),(8,.bs 1000 0 ps.length ps.length),(9,I (ps.length:Int)),(10,I (i.1:Int)),(4,.ptr 4 0)],[(1000,tyC ps),(4,[I 0,I 0])],[],[]⟩) (fun i=>ps.length-i.1) ⟨0,Nat.zero_le _,hR⟩ ?_ ?_
 ·exact lwA
 rintro⟨i,hi,hT⟩;by_cases hlt:i<ps.length
 ·have d1:(i:Int)<(ps.length:Int):=by omega
  obtain⟨t,et⟩:∃t,ps[i]?=some t:=⟨_,gE hlt⟩
  obtain⟨q,eq⟩:∃q,ks[i]?=some q:=⟨_,gE (by omega)⟩
  have w1:=wS i;have hdr:ps.drop i=t::ps.drop (i+1):=by
   rw[List.drop_eq_getElem_cons hlt];congr 1;rw[gE hlt]at et;exact Option.some.inj et
  have hdk:ks.drop i=q::ks.drop (i+1):=by
   rw[List.drop_eq_getElem_cons (show i<ks.length by omega)];congr 1;rw[gE (show i<ks.length by omega)]at eq;exact Option.some.inj eq
  rw[hdr,hdk,z22]at hT;have f2:=zht et;by_cases h:t.k=q
  ·have hb:(t.k==q)=true:=by simpa using h
   rw[hb,Bool.true_and]at hT;simp only[vW,seval,tyV,d1,f2,eq,h,w1];refine⟨by omega,zc ⟨i+1,hlt,hT⟩ (by show ps.length-(i+1)<ps.length-i;omega) ?_⟩;exact lwA
  ·have hb:(t.k==q)=false:=by simpa using h
   rw[hb,Bool.false_and,if_neg (by decide)]at hT;simp only[vW,seval,tyV,d1,f2,eq,h];refine⟨by omega,?_⟩;rw[←hT];rfl
 ·have d1:¬(i:Int)<(ps.length:Int):=by omega
  have hdr:ps.drop i=[]:=List.drop_eq_nil_of_le (by omega);rw[hdr,z22,if_pos rfl]at hT;simp only[vW,seval,tyV,d1];rw[←hT]
theorem zaG:∃f g:Field,(Tryz.prog.fieldsOf 46).toList=[f,g]∧f.name≠ "_" ∧g.name≠ "_" ∧(∀a b:Int,zr Tryz.prog (part f.type #[.int .i64 a,.int .i64 b] f.offset)=some (.int .i64 a))∧(∀a b:Int,zr Tryz.prog (part g.type #[.int .i64 a,.int .i64 b] g.offset)=some (.int .i64 b))∧
  (∀(n:Nat) (a c:Int),zr Tryz.prog (Op.equalIn (n+1) f.type (.int .i64 a) (.int .i64 c))=some (a==c))∧(∀(n:Nat) (a c:Int),zr Tryz.prog (Op.equalIn (n+1) g.type (.int .i64 a) (.int .i64 c))=some (a==c)):=by
 refine⟨(Tryz.prog.fieldsOf 46).toList.getD 0 default,(Tryz.prog.fieldsOf 46).toList.getD 1 default,by kernel_rfl,?_,?_,fun a b=>by kernel_rfl,fun a b=>by kernel_rfl,fun n a c=>by kernel_rfl,fun n a c=>by kernel_rfl⟩
 ·exact of_decide_eq_true (by kernel_rfl)
 ·exact of_decide_eq_true (by kernel_rfl)
theorem z4O(a b c d:Int):z04 Tryz.prog (do eqGuard .eql 46 (.const (.agg #[.int .i64 a,.int .i64 b])) (.const (.agg #[.int .i64 c,.int .i64 d])) (.agg #[.int .i64 a,.int .i64 b]) (.agg #[.int .i64 c,.int .i64 d]);binOp .eql 46 (.agg #[.int .i64 a,.int .i64 b]) (.agg #[.int .i64 c,.int .i64 d]))=
  some (.pv (.v (.bool (z0h ⟨a,b⟩ ⟨c,d⟩))),.no):=by
 unfold z04;rw[zZ];have hg:zr Tryz.prog (eqGuard .eql 46 (.const (.agg #[.int .i64 a,.int .i64 b])) (.const (.agg #[.int .i64 c,.int .i64 d])) (.agg #[.int .i64 a,.int .i64 b]) (.agg #[.int .i64 c,.int .i64 d]))=some ():=by kernel_rfl
 rw[hg,Option.bind_some];have hb:binOp .eql 46 (.agg #[.int .i64 a,.int .i64 b]) (.agg #[.int .i64 c,.int .i64 d])=(Op.equal 46 (.agg #[.int .i64 a,.int .i64 b]) (.agg #[.int .i64 c,.int .i64 d])>>=fun r=>pure (.bool r)):=rfl;rw[hb,zZ];have he:zr Tryz.prog (Op.equal 46 (.agg #[.int .i64 a,.int .i64 b]) (.agg #[.int .i64 c,.int .i64 d]))=some (z0h ⟨a,b⟩ ⟨c,d⟩):=by
  unfold Op.equal;obtain⟨n,hn⟩:∃n,Op.maxDepth=n+1+1:=⟨_,rfl⟩
  rw[hn,z2e _ _ _ _ (by kernel_rfl) (by kernel_rfl)];obtain⟨f,g,hl,nf,ng,pf,pg,ef,eg⟩:=zaG;rw[hl];simp only[Op.eqFields,nf,ng,ne_eq,not_false_eq_true,if_true,zZ,pf,pg,ef,eg,Option.bind_some];unfold z0h;cases h:(a==c)
  ·simp[h,z1X]
  ·cases h2:(b==d)<;>simp[h,h2,z1X,zZ,pg,eg,ng]
 rw[he];rfl
theorem ziG(g:Sh.Glob)(a b:Ty):zC g 215 [.bs 1000 0 2 2] [.box (tyC [a,b])] (B (z1G a b)) [.box (tyC [a,b])]:=by
 have e:tyC [a,b]=[I a.k,I a.o,I b.k,I b.o]:=rfl;rw[e];unfold z1G;refine zp tf_69 ?_;obtain⟨ak,ao⟩:=a;obtain⟨bk,bo⟩:=b;simp only;cases h:z0h ⟨ak,ao⟩ ⟨bk,bo⟩
 ·simp only[vW,seval,tyV,z4O,h]
 ·by_cases h1:ak=1
  ·subst h1;simp only[vW,seval,tyV,z4O,h]
  ·have hb:(ak==1)=false:=by simpa using h1
   have hc:decide (ak=2)=(ak==2):=by rw[Bool.eq_iff_iff];simp
   simp only[vW,seval,tyV,z4O,h,h1,hb,hc]
theorem ziH(g:Sh.Glob)(c a b:Ty):zC g 215 [.bs 1000 2 2 2] [.box (tyC [c,a,b])] (B (z1G a b)) [.box (tyC [c,a,b])]:=by
 have e:tyC [c,a,b]=[I c.k,I c.o,I a.k,I a.o,I b.k,I b.o]:=rfl;rw[e];unfold z1G;refine zp tf_69 ?_;obtain⟨ak,ao⟩:=a;obtain⟨bk,bo⟩:=b;simp only;cases h:z0h ⟨ak,ao⟩ ⟨bk,bo⟩
 ·simp only[vW,seval,tyV,z4O,h]
 ·by_cases h1:ak=1
  ·subst h1;simp only[vW,seval,tyV,z4O,h]
  ·have hb:(ak==1)=false:=by simpa using h1
   have hc:decide (ak=2)=(ak==2):=by rw[Bool.eq_iff_iff];simp
   simp only[vW,seval,tyV,z4O,h,h1,hb,hc]
theorem ziT(g:Sh.Glob)(a b c:Ty):zC g 150 [.bs 1000 0 3 3] [.box (tyC [a,b,c])] (tyB (z27 [a,b,c])) [.box (tyC [a,b,c])]:=by
 have HA:=ziH g a b c;have e:tyC [a,b,c]=[I a.k,I a.o,I b.k,I b.o,I c.k,I c.o]:=rfl;have hu:z27 [a,b,c]=if a.k=1∧z1G b c=true then(b,true)else(ty0,false):=rfl
 rw[e]at HA ⊢;rw[hu];refine zp tf_81 ?_;unfold B at HA;obtain⟨ak,ao⟩:=a;simp only at HA ⊢;by_cases h1:ak=1
 ·subst h1;simp only[vW,seval,tyV];refine z7 HA ?_;cases h2:z1G b c
  ·simp only[vW,seval,tyV];simp[ty0]
  ·simp only[vW,seval,tyV]
 ·rw[if_neg (fun h=>h1 h.1)];simp only[vW,seval,tyV,h1];rfl
theorem zm0(g:Sh.Glob)(a b:Ty):zC g 251 [.bs 1000 0 2 2] [.box (tyC [a,b])] (tyB (⟨1,0⟩,z1G a b)) [.box (tyC [a,b])]:=by
 have HA:=ziG g a b;have e:tyC [a,b]=[I a.k,I a.o,I b.k,I b.o]:=rfl;rw[e]at HA ⊢;refine zp tf_88 ?_;unfold B at HA;simp only[vW,seval,tyV];refine z7 HA ?_;simp only[vW,seval,tyV]
def zhQ(s:zB):TV:=if s=[43]∨s=[45]∨s=[42]∨s=[47]∨s=[37] then z08 1 [1,1] else if s=[38] then z08 2 [2,2] else .pv (.v (.func (.func 251) #[] #[]))
theorem in2(a b:Int):inR [a,b]=[[.v (.int .i64 a)],[.v (.int .i64 b)]]:=rfl
theorem zfF(g:Sh.Glob)(s:zB):zC g 210 [S (str s)] [] (zhQ s) []:=by
 have H1:=z2a g 1 [1,1];have H2:=z2a g 2 [2,2];have q1:=bS [43];have q2:=bS [45];have q3:=bS [42];have q4:=bS [47];have q5:=bS [37];have q6:=bS [38];have hb:∀a b:zB,a≠b→(a==b)=false:=fun a b h=>by simpa using h
 unfold zhQ;unfold z08 at*;refine za tf_87 ?_;by_cases h1:s=[43]
 ·subst h1;simp only[vW,seval,q1];(with_reducible apply z05);simp only[vW,seval,in2];rfl;rfl;exact H1;exact km;simp only[vW,seval,in2];rfl;simp only[vW,seval];rfl
 have d1:=hb _ _ h1;by_cases h2:s=[45]
 ·subst h2;simp only[vW,seval,q1,q2,d1];(with_reducible apply z05);simp only[vW,seval,in2];rfl;rfl;exact H1;exact km;simp only[vW,seval,in2];rfl;simp only[vW,seval];rfl
 have d2:=hb _ _ h2;by_cases h3:s=[42]
 ·subst h3;simp only[vW,seval,q1,q2,q3,d1,d2];(with_reducible apply z05);simp only[vW,seval,in2];rfl;rfl;exact H1;exact km;simp only[vW,seval,in2];rfl;simp only[vW,seval];rfl
 have d3:=hb _ _ h3;by_cases h4:s=[47]
 ·subst h4;simp only[vW,seval,q1,q2,q3,q4,d1,d2,d3];(with_reducible apply z05);simp only[vW,seval,in2];rfl;rfl;exact H1;exact km;simp only[vW,seval,in2];rfl;simp only[vW,seval];rfl
 have d4:=hb _ _ h4;by_cases h5:s=[37]
 ·subst h5;simp only[vW,seval,q1,q2,q3,q4,q5,d1,d2,d3,d4];(with_reducible apply z05);simp only[vW,seval,in2];rfl;rfl;exact H1;exact km;simp only[vW,seval,in2];rfl;simp only[vW,seval];rfl
 have d5:=hb _ _ h5;rw[if_neg (by simp[h1,h2,h3,h4,h5])];by_cases h6:s=[38]
 ·subst h6;simp only[vW,seval,q1,q2,q3,q4,q5,q6,d1,d2,d3,d4,d5];(with_reducible apply z05);simp only[vW,seval,in2];rfl;rfl;exact H2;exact km;simp only[vW,seval,in2];rfl;simp only[vW,seval];rfl
 have d6:=hb _ _ h6;rw[if_neg h6];simp only[vW,seval,q1,q2,q3,q4,q5,q6,d1,d2,d3,d4,d5,d6]
end
theorem zdg(p q:Bool):z04 Tryz.prog (do eqGuard .eql 4 (.const (.bool p)) (.const (.bool q)) (.bool p) (.bool q);binOp .eql 4 (.bool p) (.bool q))=some (.pv (.v (.bool (p==q))),.no):=by
 cases p<;>cases q<;>kernel_rfl
inductive VFew:V→Prop where
 |mk {k n:Int} {s:zB} {l:List V} (h:l.length≤1000) (hs:∀y∈l,VFew y):VFew (.mk k n s l)
theorem VFew.len{x:V}(h:VFew x):x.l.length≤1000:=by cases h;assumption
theorem VFew.sub{x y:V}(h:VFew x)(hy:y∈x.l):VFew y:=by cases h with|mk _ hs=>exact hs y hy
theorem zbJ{x:V}(h:x.l=[]):VFew x:=by cases x with|mk k n s l=>simp only[Vl]at h;subst h;exact .mk (by simp) (by simp)
theorem VFew.small{x:V}(h:VFew x):VSmall x:=by
 induction h with
 |mk h _ ih=>exact .mk (by unfold maxLen;omega) ih
theorem zfS{P:Program}{g:Sh.Glob}{f:Nat}{xs:List TV}{os:List MO}{y:TV}(hb:z3q P f)
  (h:∀(w:World) (E:Env) (vs:List Value),g.G w→MSim (Sh.start w E os 0) (z01 os) (zm os) w E→xs.length=vs.length→(∀(j:Nat) x v,xs[j]?=some x→vs[j]?=some v→RelT w E (zm os) x v)→
   ∃v,(∀w' E r,RelT w' E r y v)∧Calls P f vs.toArray w fun e w'=>e=.returned v∧Below w.heap.size w w'):SCalls P g f xs os y os:=by
 refine⟨hb,fun w E us hG hm hX hl hr=> ?_⟩;obtain⟨v,hy,hc⟩:=h w E us hG hm hl hr;refine hc.mono ?_;rintro e w' ⟨rfl,hb⟩;refine⟨v,E,rfl,?_,hy _ _ _,⟨fun _ _ _=>rfl,fun _ _ _ _=>rfl,fun d e W n hd=>⟨n,hd,Nat.le_refl _,fun _=>rfl⟩⟩⟩;exact MSim.ext (s:=⟨fun _=>none,z01 os,zm os,fun _=>none⟩) hm hb E (fun _ _ h=>h) (fun _ _ h=> .inl h) (fun _ _=>⟨rfl,rfl⟩) (fun _ _ _=>rfl) (fun _ _=>⟨rfl,rfl⟩)
theorem zaK{w:World}{k:Nat}{os:Array Obj}:Below w.heap.size w (Go.Sort.grow (w.drewN k) os):=by
 have h1:∀k,Below w.heap.size w (w.drewN k):=by
  intro k
  induction k with
  |zero=>exact Below.refl _ _
  |succ k ih=>exact ih.trans (by have:=(Below.refl w.heap.size (w.drewN k)).drew;exact this)
 have h:=h1 k;refine⟨h.os,h.tape,h.output,?_,fun j hj=> ?_⟩
 ·show _≤((w.drewN k).heap++os).size;rw[Array.size_append];have:=h.size;omega
 ·show((w.drewN k).heap++os)[j]?=_;rw[Array.getElem?_append_left (by have:=h.size;omega)];exact h.block j hj
theorem zgm(m:Nat)(n:Int)(h0: -9223372036854775808≤n)(h1:n≤9223372036854775807):zC (glT m) 97 [I n] [] (S (str (Lib.itoa n))) []:=
 z1y (vs:=[.int .i64 n]) (z0A (by kernel_rfl)) (fun w E r=> .pv (.v _)) (fun w hG=>(Tryz.strconv_Itoa n h0 h1 w hG.t.tab).mono fun e w' ⟨he,k,os,hw⟩=>⟨he,by rw[hw];exact zaK⟩)
theorem zgE(m:Nat)(s o n:zB)(hs:s.length<4294967281)(ho:1≤o.length)(hl:s.length+Lib.countB (str s) (str o)*n.length≤140737488355328):
  zC (glT m) 98 [S (str s),S (str o),S (str n)] [] (S (str (Lib.replaceAll s o n))) []:=
 z1y (vs:=[.string (str s),.string (str o),.string (str n)]) (z0A (by kernel_rfl)) (fun w E r=> .pv (.v _)) (fun w hG=>by
  obtain⟨k,hk⟩:=hG.t.mx;have:=Tryz.strings_ReplaceAll (str s) (str o) (str n) k w (by rw[z3V];exact hs) hk (by rw[z3V];exact ho) (by rw[z3V,z3V];exact hl);simp only[str_toList]at this;exact this)
def zbZ(l:List (zB)):List TV:=pvC (l.map fun s=> .v (.string (str s)))
theorem znJ(m:Nat)(l:List (zB))(sep:zB)(hN:l.length≤140737488355328)(hl:(Lib.join l sep).length≤140737488355328):
  zC (glT m) 99 [.bs 1000 0 l.length l.length,S (str sep)] [.box (zbZ l)] (S (str (Lib.join l sep))) [.box (zbZ l)]:=by
 refine zfS (z0A (by kernel_rfl)) fun w E vs hG hm hlen hr=>⟨.string (str (Lib.join l sep)),fun w' E r=> .pv (.v _),?_⟩
 obtain⟨v0,v1,rfl⟩:∃v0 v1,vs=[v0,v1]:=by
  match vs,hlen with
  |[v0,v1],_=>exact⟨v0,v1,rfl⟩
 obtain rfl:=znc (hr 1 _ v1 rfl rfl);have r0:=hr 0 _ v0 rfl rfl;cases r0 with
 |bs _ _ _ _ C _ hcC _=>
 obtain⟨hbox,_⟩:=hm.box 1000 (zbZ l) rfl;have:=Tryz.strings_Join (E.β 1000) 0 C (l.map str) (str sep) w (fun j x hx=>by
  rw[List.getElem?_map]at hx;obtain⟨y,hy,rfl⟩:=gO hx;obtain⟨v,h1,_,h3⟩:=hbox.cell j (S (str y)) (by simp[zbZ,pvC,hy];rfl);rw[Nat.zero_add,h1,znc h3]) hbox.lt (by simpa using hN) (by simpa using hcC) (by simpa [Function.comp_def,str_toList]using hl)
 simp only[List.length_map,List.map_map,Function.comp_def,str_toList,List.map_id']at this;exact this
section
open Go.Sh.Cd1
theorem zgv(g:Sh.Glob)(a:Int):zC g 168 [I a] [] (.pv (.v (.bool false))) []:=by
 refine za tf_65 ?_;simp only[vW,seval]
theorem zgw(g:Sh.Glob)(a:ByteArray):zC g 169 [S a] [] (.pv (.v (.bool false))) []:=by
 refine za tf_66 ?_;simp only[vW,seval]
theorem zbH(g:Sh.Glob)(a b:Int):zC g 106 [I a,I b] [] (I (z25 a b)) []:=by
 refine z0s tf_63 ?_;refine z8 (zgv g _) ?_;refine z8 (zgv g _) ?_;unfold z25;refine⟨fun h=>by rw[if_pos h],fun h=>⟨fun h'=>by rw[if_neg h,if_pos h'],fun h'=>by rw[if_neg h,if_neg h']⟩⟩
theorem znt(g:Sh.Glob)(a b:zB):zC g 107 [S (str a),S (str b)] [] (I (z2I a b)) []:=by
 refine z0s tf_64 ?_;refine z8 (zgw g _) ?_;refine z8 (zgw g _) ?_;unfold z2I;cases hb:Op.bytesLess a b
 ·by_cases he:a=b
  ·subst he;simp[z0u]
  ·simp[z0u,he]
 ·simp[z0u]
theorem zh5(g:Sh.Glob)(l l':List V)(hl:l.length≤maxLen)(H:∀(i:Nat) x y,l[i]?=some x→l'[i]?=some y→zC g 55 [tv x,tv y] [] (I (cmpV x y)) []):
  zC g 108 [.pv (.sl 4 (V.rows l)),.pv (.sl 4 (V.rows l')),.pv (.v (.func (.func 55) #[] #[]))] [] (I (z1u l l')) []:=by
 refine z0s tf_164 ?_;refine zw (σ:={ i:Nat // i≤min l.length l'.length∧z1u l l'=z1u (l.drop i) (l'.drop i) }) (fun i=>⟨[(0,.pv (.sl 4 (V.rows l))),(1,.pv (.sl 4 (V.rows l'))),(2,.pv (.v (.func (.func 55) #[] #[]))),(13,I (min (l.length:Int) (l'.length:Int))),(14,I (i.1:Int))],[],[],[]⟩) (fun i=>min l.length l'.length-i.1) ⟨0,Nat.zero_le _,rfl⟩ (z0Y rfl) ?_;rintro⟨i,hi,hc⟩;simp only[vW,seval];have hm:maxLen=9223372036854775807:=rfl;refine⟨fun hlt=> ?_,fun hge=> ?_⟩
 ·refine⟨by omega,fun x hx=>⟨by omega,fun y hy=> ?_⟩⟩;(with_reducible apply zJ);exact kv;exact H i x y hx hy;rfl;exact kv;have hd:=zck hx hy;rw[←hc]at hd;unfold z03 at hd;simp only[vW,seval];refine⟨fun h0=> ?_,fun h0=> ?_⟩
  ·rw[if_pos h0]at hd;have w1:IntKind.i64.wrap ((i:Int)+1)=(i:Int)+1:=wrap64 (by omega) (by omega);refine zc ⟨i+1,by omega,hd⟩ (by show _-(i+1)<_-i;omega) ?_;apply z06<;>simp[leL,lk,sv,Nat.beq,I,S,ES.kill,has,drp,zK,w1]
  ·rw[if_neg h0]at hd;rw[hd]
 ·refine z8 (zbH g _ _) ?_;rw[hc,zab (by omega)]
theorem zcl(g:Sh.Glob):∀(n:Nat) (x y:V),SizeOf.sizeOf x≤n→VSmall x→zC g 55 [tv x,tv y] [] (I (cmpV x y)) []
 |0,x,y,h,_=>by cases x;simp at h
 |n+1,x,y,h,hx=>by
  have HB:=zh5 g x.l y.l hx.len (fun i a b ha hb=>zcl g n a b (by
   have hm:=gM ha;have:=List.sizeOf_lt_of_mem hm;cases x;simp[V.l]at h this ⊢;omega) (hx.sub (gM ha)))
  refine za tf_158 ?_;rw[z97];simp only[vW,seval];refine z8 (zbH g _ _) ?_;refine⟨fun h1=> ?_,fun h1=>by rw[z03,if_neg h1]⟩;rw[z03,if_pos h1];refine z8 (zbH g _ _) ?_;refine⟨fun h2=> ?_,fun h2=>by rw[z03,if_neg h2]⟩;rw[z03,if_pos h2];refine z8 (znt g _ _) ?_;refine⟨fun h3=> ?_,fun h3=>by rw[z03,if_neg h3]⟩;rw[z03,if_pos h3];exact zd HB
theorem zhe(g:Sh.Glob)(x y:V)(hx:VSmall x):zC g 55 [tv x,tv y] [] (I (cmpV x y)) []:=zcl g _ x y (Nat.le_refl _) hx
theorem zod(g:Sh.Glob)(x y:V)(hx:VSmall x)(H:∀(i:Nat) a b,x.l[i]?=some a→y.l[i]?=some b→zC g 156 [tv a,tv b] [] (I (cmpV a b)) [])(c:Int):
  swp Tryz.prog g (.loop c_118_12) (z2u 0 (z2P (swp Tryz.prog g (.seq (.seq c_118_13 (.cond (.tmp 67) (.seq c_118_14 .ret) .skip)) (.seq c_118_15 .ret)) (Post0 [.tmp 4] (I (z03 c (z1u x.l y.l))))) (Post0 [.tmp 4] (I (z03 c (z1u x.l y.l))))))
   ⟨[(2,.ptr 2 0),(3,.ptr 3 0),(5,I c),(6,I 0)],[(2,[I x.k,I x.n,S (str x.s),.pv (.sl 4 (V.rows x.l))]),(3,[I y.k,I y.n,S (str y.s),.pv (.sl 4 (V.rows y.l))])],[],[]⟩:=by
 refine zw (σ:={ p:Nat×Int // p.1≤min x.l.length y.l.length∧z03 c (z1u x.l y.l)=z03 p.2 (z1u (x.l.drop p.1) (y.l.drop p.1)) })
  (fun p=>⟨[(2,.ptr 2 0),(3,.ptr 3 0),(5,I p.1.2),(6,I (p.1.1:Int))],[(2,[I x.k,I x.n,S (str x.s),.pv (.sl 4 (V.rows x.l))]),(3,[I y.k,I y.n,S (str y.s),.pv (.sl 4 (V.rows y.l))])],[],[]⟩)
  (fun p=>min x.l.length y.l.length-p.1.1) ⟨(0,c),Nat.zero_le _,rfl⟩ (z0Y rfl) ?_
 rintro⟨⟨i,d⟩,hi,hc⟩;have hm:maxLen=9223372036854775807:=rfl;have hl:=hx.len;simp only at hi hc;simp only[vW,seval];refine⟨fun h0=>⟨fun h1=>⟨fun h2=>⟨by omega,fun a ha=>⟨by omega,fun b hb=> ?_⟩⟩,fun h2=>⟨fun _=> ?_,fun h=>absurd h0 h⟩⟩,fun h1=>⟨fun _=> ?_,fun h=>absurd h0 h⟩⟩,fun h0=>⟨fun h=>absurd h h0,fun _=> ?_⟩⟩
 ·refine z8 (H i a b ha hb) ?_;have w1:IntKind.i64.wrap ((i:Int)+1)=(i:Int)+1:=wrap64 (by omega) (by omega);refine zc ⟨(i+1,cmpV a b),by show i+1≤_;omega,?_⟩ (by show _-(i+1)<_-i;omega) ?_
  ·show _=z03 (cmpV a b) (z1u (x.l.drop (i+1)) (y.l.drop (i+1)));rw[hc,h0,zck ha hb];simp[z03]
  apply z06<;>simp[leL,lk,sv,Nat.beq,I,S,ES.kill,has,drp,zK,w1]
 ·refine z8 (z5L g _ _) ?_;rw[hc,h0,z03,if_pos rfl,zab (by omega)]
 ·refine z8 (z5L g _ _) ?_;rw[hc,h0,z03,if_pos rfl,zab (by omega)]
 ·rw[hc,z03,if_neg h0]
theorem z8F(g:Sh.Glob):∀(n:Nat) (x y:V),SizeOf.sizeOf x≤n→VSmall x→zC g 156 [tv x,tv y] [] (I (cmpV x y)) []
 |0,x,y,h,_=>by cases x;simp at h
 |n+1,x,y,h,hx=>by
  have H:∀(i:Nat) a b,x.l[i]?=some a→y.l[i]?=some b→zC g 156 [tv a,tv b] [] (I (cmpV a b)) []:=fun i a b ha hb=>z8F g n a b (by
   have hm:=gM ha;have:=List.sizeOf_lt_of_mem hm;cases x;simp[V.l]at h this ⊢;omega) (hx.sub (gM ha))
  have HL:=zod g x y hx H;refine z5C zf tf_118 rfl ?_;rw[z97];by_cases h1:z25 x.k y.k=0
  ·rw[h1,z03,if_pos rfl];simp only[vW,seval];refine z7 (z5L g _ _) ?_;simp only[vW,seval,h1];refine z7 (z5L g _ _) ?_;by_cases h2:z25 x.n y.n=0
   ·rw[h2,z03,if_pos rfl];cases hb:Op.bytesLess x.s y.s
    ·by_cases he:x.s=y.s
     ·have e:z2I x.s y.s=0:=by rw[z2I,hb];simp[he]
      have he':(x.s==y.s)=true:=by simp[he]
      rw[e];simp only[vW,seval,h2,hb,he'];exact HL 0
     ·have e:z2I x.s y.s=1:=by simp[z2I,hb,he]
      have he':(x.s==y.s)=false:=by simp[he]
      rw[e];simp only[vW,seval,h2,hb,he'];exact HL 1
    ·have e:z2I x.s y.s= -1:=by simp[z2I,hb]
     rw[e];simp only[vW,seval,h2,hb];exact HL (-1)
   ·rw[show z03 (z25 x.n y.n) (z03 (z2I x.s y.s) (z1u x.l y.l))=z03 (z25 x.n y.n) (z1u x.l y.l) by simp[z03,h2]];simp only[vW,seval,h2];exact HL _
  ·rw[show z03 (z25 x.k y.k) (z03 (z25 x.n y.n) (z03 (z2I x.s y.s) (z1u x.l y.l)))=z03 (z25 x.k y.k) (z1u x.l y.l) by simp[z03,h1]];simp only[vW,seval];refine z7 (z5L g _ _) ?_;simp only[vW,seval,h1];exact HL _
theorem zd8(g:Sh.Glob)(x y:V)(hx:VSmall x):zC g 156 [tv x,tv y] [] (I (cmpV x y)) []:=z8F g _ x y (Nat.le_refl _) hx
theorem zib(g:Sh.Glob)(x y:V)(hx:VSmall x):zC g 82 [tv x,tv y] [] (.pv (.v (.bool (decide (cmpV x y=0))))) []:=by
 refine z0s tf_122 ?_;exact zd (zd8 g x y hx)
end
section
open Go.Sh.Cd1 Go.Sh.Cd6
theorem zaB(g:Sh.Glob)(l:zB)(hl:l.length≤4611686018427387904):zC g 139 [S (str l)] [] (I (z0V l:Int)) []:=by
 obtain⟨R,hR⟩:∃R,z0V l=R:=⟨_,rfl⟩
 rw[hR];have hle:=zf1 _ l (Nat.le_refl _);refine z0s tf_91 ?_;refine zw (σ:={q:Nat×Nat // q.1≤l.length∧q.2+z0V (l.drop q.1)=R}) (fun q=>⟨[(3,I (q.1.2:Int)),(5,.it 5)],[],[],[(5,(str l,q.1.1))]⟩) (fun q=>l.length-q.1.1) ⟨(0,0),Nat.zero_le _,by simpa using hR⟩ ?_ ?_
 ·exact lwA
 rintro⟨⟨p,n⟩,hp,hd⟩;simp only at hp hd;rw[zbu]at hd;by_cases hlt:p<l.length
 ·have hne:l.drop p≠[]:=by rw[Ne,List.drop_eq_nil_iff];omega
  rw[if_neg hne,List.drop_drop]at hd;have hw:=z2x hne;rw[List.length_drop]at hw;have w1:=wS n;simp only[vW,seval,hlt,z3i,w1];refine zc ⟨(p+(Lib.decodeL (l.drop p)).2,n+1),by omega,by simp only;omega⟩ (by show l.length-(p+_)<l.length-p;omega) ?_;exact lwA
 ·have hn:l.drop p=[]:=List.drop_eq_nil_of_le (by omega);rw[if_pos hn]at hd;simp only[vW,seval,hlt];rw[←hd];rfl
theorem z84(g:Sh.Glob)(l:zB)(m:Int)(hl:l.length≤4611686018427387904):zC g 142 [S (str l),I m] [] (I (z1J l m:Int)) []:=by
 obtain⟨R,hR⟩:∃R,z1J l m=R:=⟨_,rfl⟩
 rw[hR];rw[ziN]at hR;refine z0s tf_70 ?_;refine zw (σ:={q:Nat×Nat // q.1≤l.length∧q.2≤q.1∧za9 (l.drop q.1) q.1 q.2 m=R}) (fun q=>⟨[(0,S (str l)),(1,I m),(5,I (q.1.2:Int)),(8,.it 8)],[],[],[(8,(str l,q.1.1))]⟩) (fun q=>l.length-q.1.1) ⟨(0,0),Nat.zero_le _,Nat.zero_le _,by simpa using hR⟩ ?_ ?_
 ·exact lwA
 rintro⟨⟨p,n⟩,hp,hnp,hd⟩;simp only at hp hd hnp;rw[zce]at hd;by_cases hlt:p<l.length
 ·have hne:l.drop p≠[]:=by rw[Ne,List.drop_eq_nil_iff];omega
  rw[if_neg hne,List.drop_drop]at hd;have hw:=z2x hne;rw[List.length_drop]at hw;have w1:=wS n;by_cases h:m≤(n:Int)
  ·rw[if_pos h]at hd;simp only[vW,seval,hlt,z3i,h];rw[hd]
  ·rw[if_neg h]at hd;simp only[vW,seval,hlt,z3i,w1,h];refine zc ⟨(p+(Lib.decodeL (l.drop p)).2,n+1),by omega,by simp only;omega,hd⟩ (by show l.length-(p+_)<l.length-p;omega) ?_;exact lwA
 ·have hn:l.drop p=[]:=List.drop_eq_nil_of_le (by omega);rw[if_pos hn]at hd;simp only[vW,seval,hlt];have:p=l.length:=by omega
  rw[←this,hd]
theorem zim(g:Sh.Glob)(r:Int):zC g 212 [.pv (.v (.int .i32 r))] [] (I (Lib.runeLen r)) []:=
 z1y (vs:=[.int .i32 r]) (z0A (by kernel_rfl)) (fun w E r=> .pv (.v _)) (fun w hG=>(Tryz.utf8_RuneLen r w).mono fun e w' ⟨he,hw⟩=>⟨he,by rw[hw];exact Below.refl _ _⟩)
theorem zlH(m:Nat)(s t:zB)(hs:s.length<4294967281):zC (glT m) 213 [S (str s),S (str t)] [] (I (Lib.index s t)) []:=
 z1y (vs:=[.string (str s),.string (str t)]) (z0A (by kernel_rfl)) (fun w E r=> .pv (.v _)) (fun w hG=>by
  obtain⟨k,hk⟩:=hG.t.mx;have:=Tryz.strings_Index (str s) (str t) k w (by rw[z3V];exact hs) hk;simp only[str_toList]at this;exact this.mono fun e w' ⟨he,hw⟩=>⟨he,by rw[hw];exact Below.refl _ _⟩)
theorem zjs(t u:zB): -1≤Lib.index t u∧Lib.index t u≤t.length:=by
 rcases Lib.index_spec t u with⟨h1,_⟩|⟨p,h1,h2,_⟩
 ·rw[h1];omega
 ·rw[h1];omega
theorem zjd(m:Nat)(t u:zB)(ht:t.length<4294967281):zC (glT m) 146 [S (str t),S (str u)] [] (I (z9a t u)) []:=by
 have HI:=zlH m t u ht;have hb:=zjs t u;unfold z9a;refine z0s tf_82 ?_;refine z7 HI ?_;by_cases h:Lib.index t u<0
 ·rw[if_pos h];simp only[vW,seval,h]
 ·rw[if_neg h];obtain⟨n,hn⟩:∃n:Nat,Lib.index t u=n:=⟨(Lib.index t u).toNat,by omega⟩
  rw[hn]at hb h ⊢;have HS:=zaB (glT m) (t.take n) (by rw[List.length_take];omega);simp only[vW,seval,h,List.drop_zero];refine⟨by omega,?_⟩;exact zd HS
theorem z0N(g:Sh.Glob)(n:Int):zC g 138 [I n] [] (nv (z0i n)) []:=by
 unfold z0i zdS nv;refine z0s tf_85 ?_;rfl
theorem zpQ(k:Int): -1≤Lib.runeLen k∧Lib.runeLen k≤4:=by
 unfold Lib.runeLen
 repeat' split
 all_goals omega
theorem z4L(g:Sh.Glob)(l:zB)(hl:l.length≤4611686018427387904):zC g 141 [S (str l)] [] (nv (z1K l)) []:=by
 obtain⟨R,hR⟩:∃R,zbI l 0=R:=⟨_,rfl⟩
 unfold z1K nv;rw[zoZ,hR];refine z0s tf_94 ?_;refine zw (σ:={q:Nat // q≤l.length∧zbI (l.drop q) q=R}) (fun q=>⟨[(0,S (str l)),(2,.ptr 2 0),(6,.it 6)],[(2,[I 0,I 0,S ⟨#[]⟩,.pv (.v (.slice none 0 0))])],[],[(6,(str l,q.1))]⟩) (fun q=>l.length-q.1) ⟨0,Nat.zero_le _,by simpa using hR⟩ ?_ ?_
 ·exact lwA
 rintro⟨p,hp,hd⟩;rw[zj3]at hd;by_cases hlt:p<l.length
 ·have hne:l.drop p≠[]:=by rw[Ne,List.drop_eq_nil_iff];omega
  rw[if_neg hne,List.drop_drop]at hd;have hw:=z2x hne;rw[List.length_drop]at hw;have HR:=zim g (((Lib.decodeL (l.drop p)).1:Nat):Int);have hrl:=zpQ (((Lib.decodeL (l.drop p)).1:Nat):Int);generalize Lib.runeLen (((Lib.decodeL (l.drop p)).1:Nat):Int)=k at*;have w1:IntKind.i64.wrap ((p:Int)+k)=(p:Int)+k:=wrap64 (by omega) (by omega);by_cases h:60<(p:Int)+k
  ·rw[if_pos h]at hd;subst hd;simp only[vW,seval,hlt,z3i];refine z7 HR ?_;simp only[vW,seval,w1,h,List.drop_zero];exact⟨by omega,by omega⟩
  ·rw[if_neg h]at hd;simp only[vW,seval,hlt,z3i];refine z7 HR ?_;simp only[vW,seval,w1,h];refine zc ⟨p+(Lib.decodeL (l.drop p)).2,by omega,hd⟩ (by show l.length-(p+_)<l.length-p;omega) ?_;exact lwA
 ·have hn:l.drop p=[]:=List.drop_eq_nil_of_le (by omega);rw[if_pos hn]at hd;simp only[vW,seval,hlt];have:p=l.length:=by omega
  rw[←hd,this,List.take_length]
theorem zlG(g:Sh.Glob)(s:zB)(c:Int)(hs:s=[61]∨s=[60,62]∨s=[60]∨s=[60,61]∨s=[62]∨s=[62,61]):zC g 218 [S (str s),I c] [] (B (z3C s c)) []:=by
 have q1:=bS [60,61];have q2:=bS [61];have q3:=bS [62,61];have q4:=bS [62];have q5:=bS [60,62];unfold B;have e1:(([60,62]:zB)==[60,61])=false:=rfl;have e2:(([60,62]:zB)==[61])=false:=rfl;have e3:(([60,62]:zB)==[62,61])=false:=rfl;have e4:(([60,62]:zB)==[62])=false:=rfl;have f1:(([61]:zB)==[60,61])=false:=rfl;have g1:(([60]:zB)==[60,61])=false:=rfl;have g2:(([60]:zB)==[61])=false:=rfl;have g3:(([60]:zB)==[62,61])=false:=rfl;have g4:(([60]:zB)==[62])=false:=rfl;have g5:(([60]:zB)==[60,62])=false:=rfl;have h1:(([62]:zB)==[60,61])=false:=rfl;have h2:(([62]:zB)==[61])=false:=rfl;have h3:(([62]:zB)==[62,61])=false:=rfl;have i1:(([62,61]:zB)==[60,61])=false:=rfl;have i2:(([62,61]:zB)==[61])=false:=rfl;refine za tf_84 ?_;rcases hs with rfl|rfl|rfl|rfl|rfl|rfl
 ·rw[show z3C [61] c=decide (c=0) from rfl];simp only[vW,seval,q1,q2,q3,q4,q5,f1]
 ·rw[show z3C [60,62] c=decide (c≠0) from rfl];simp only[vW,seval,q1,q2,q3,q4,q5,e1,e2,e3,e4];simp
 ·rw[show z3C [60] c=decide (c<0) from rfl];simp only[vW,seval,q1,q2,q3,q4,q5,g1,g2,g3,g4,g5]
 ·rw[show z3C [60,61] c=decide (c≤0) from rfl];by_cases h:c<0
  ·simp only[vW,seval,q1,q2,q3,q4,q5,h];simp;omega
  ·simp only[vW,seval,q1,q2,q3,q4,q5,h];simp;omega
 ·rw[show z3C [62] c=decide (0<c) from rfl];simp only[vW,seval,q1,q2,q3,q4,q5,h1,h2,h3]
 ·rw[show z3C [62,61] c=decide (0≤c) from rfl];by_cases h:c=0
  ·simp only[vW,seval,q1,q2,q3,q4,q5,i1,i2,h]
  ·simp only[vW,seval,q1,q2,q3,q4,q5,i1,i2,h];simp;omega
end
end Go.Proofs.YtcpaleaajdilgaaGreatDoor
end
