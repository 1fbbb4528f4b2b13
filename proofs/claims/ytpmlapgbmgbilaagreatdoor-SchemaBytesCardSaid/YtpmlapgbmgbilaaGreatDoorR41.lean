/- Merged texts: Ye4. No statement of the program is proved here. -/
import Derived.Test.YtpmlapgbmgbilaaGreatDoorR40
set_option linter.unusedSimpArgs false
set_option linter.unusedVariables false
set_option maxRecDepth 100000
set_option maxHeartbeats 8000000
section
namespace Go.Proofs.YtpmlapgbmgbilaaGreatDoor
open Go Go.RowKit Go.Mor Go.Sh Go.Sh.Cd1 Go.Sh.Cd7 Go.Sh.Cd10
theorem zrb{c:Cls}{h:Chg}(ho:okV c h=true)(hr:ChRd h):ChFit h:=by
 unfold okV z04 at ho;simp only[Bool.and_eq_true]at ho;have hk:1≤h.k∧h.k≤6:=by
  have:=ho.1.2.1.1.1.1.1.1;unfold z0A at this
  grind
 have ht:(0≤h.t.k∧h.t.k≤5)∧(0≤h.t.o∧h.t.o≤4):=by
  have:=ho.1.2.1.1.2;split at this
  ·unfold zi at this;split at this
   ·simp at this;omega
   ·simp at this;omega
  ·simp[z0g,ty0]at this;omega
 have tx:∀s,zcy s→s.length≤10000:=fun s hs=>by
  rcases hs with rfl|⟨h2,_⟩
  ·exact Nat.zero_le _
  ·omega
 have f:=hr.f;have n:=hr.n;have m:=hr.m;exact⟨⟨by omega,by omega⟩,⟨by omega,by omega⟩,⟨by omega,by omega⟩,by omega,by omega,by omega,tx _ hr.x,tx _ hr.o⟩
theorem zk4(c:Cls):z4s c c=true:=by unfold z4s;rw[(zbD _ _).2 rfl];simp
theorem zhd(s:List Ln):z1Z z39 s s=true:=z87 fun x _=>by
 unfold z39;rw[zk4];simp only[Bool.true_and];exact z87 fun h _=>by simp[z0j,z0g]
theorem zts{m:Nat}{s:List Ln}(hO:OkS m s){i:Nat}{l:Ln}(hi:s[i]?=some l)(k:Nat):OkS m (z49 s i k l):=
 ⟨zjD hO.r hi k,fun x hx=>by
  unfold z49 at hx;rcases List.mem_append.1 hx with hx|hx
  ·exact hO.c x (List.mem_of_mem_take hx)
  ·obtain rfl:=List.mem_singleton.1 hx;exact fun h hh=>hO.c l (gM hi) h (List.mem_of_mem_take hh)⟩
theorem zte{m:Nat}{s:List Ln}(hO:OkS m s)(h4:s.length≤4){i:Nat}{l:Ln}(hi:s[i]?=some l):zC (glE m) 13 [scT (s.take i),clT l.c] [] (.tuple [scT (z49 s i 0 l),I 0]) []:=by
 have hc:zd l.c=true:=(hO.ln (gM hi)).c;have hn:=zic hO.r hi;have e:z49 s i 0 l=s.take i++[⟨l.c,[]⟩]:=by unfold z49;rw[List.take_zero]
 rw[e];by_cases h0:s.take i=[]
 ·rw[h0];exact zhl m l.c hc
 ·have hT:OkS m (s.take i):=⟨zcd hO.r i,fun x hx=>hO.c x (List.mem_of_mem_take hx)⟩
  have:=hT.addC h0 (by rw[List.length_take];omega) hc;rw[hn]at this;exact this
theorem zcV(a0 a1:Addr)(m:Nat)(l:List RawL)(hx:∀y∈l,RawLOk y)(hlen:l.length≤9223372036854775807):
  zC (glX a0 a1 m) 4 [.pv (.sl 3 (rlR l))] [] (B true) []:=by
 have HX:=za2 (a0:=a0) (a1:=a1) (zmX m);have HS:=zhf (glX a0 a1 m) l hx hlen;obtain⟨hs,hs4,hne⟩:=zeh l;generalize z4b l=s at*;have hO:=zlg m hs;have HC:=za2 (a0:=a0) (a1:=a1) (z4j m s (by omega) hO.ls);rw[hO.r.check]at HC;have SM:=zb7 (glX a0 a1 m) s s (by omega) hO.few (fun l hl=>(hO.few l hl).1);have hsame:z1Z z39 s s=true:=zhd s;rw[hsame]at SM;refine za tf_130 ?_;unfold scT B at*;simp only[vW,seval];refine z8 HX ?_;refine z8 HS ?_;refine zk (σ:={i:Nat // i≤s.length}) (fun i=>⟨[(3,.pv (.v (.bool true))),(4,.ptr 4 0),(5,.ptr 5 0),(6,I (i.1:Int))],[(4,[.pv (.sl 3 (z0t s))]),(5,[.pv (.sl 3 (z0t (s.take i.1)))])],[],[]⟩) (fun i=>s.length-i.1) ⟨0,Nat.zero_le _⟩ ?_ ?_
 ·refine ES.Lw.trans ?_ (zc2 (k:=5) (cs:=[zn]) (ds:=[.pv (.sl 3 [])]) rfl rfl (fun j a b ha hb=>by
   match j with
   |0=>cases ha;cases hb;exact z2u 3
   |j+1=>cases ha))
  have e0:z0t (s.take 0)=[]:=rfl
  dsimp only
  rw[e0];exact lwA
 rintro⟨i,hi⟩;by_cases hlt:i<s.length
 ·have d1:(i:Int)<(s.length:Int):=by omega
  obtain⟨li,eli⟩:∃x,s[i]?=some x:=⟨_,gE hlt⟩
  have hmem:=gM eli;have hg:=(hs.g li hmem).1;have hc:zd li.c=true:=(hO.ln hmem).c;have E1:=z2f (ziV a0 a1 m li.c hc);have D1:=z2f (ziM a0 a1 m li.c hc);have A1:=za2 (a0:=a0) (a1:=a1) (zte hO hs4 eli);have w6:=wS i;have hP:∀k,k≤li.hs.length→OkS m (z49 s i k li):=fun k hk=>zts hO eli k;unfold scT clT at E1 D1 A1;simp only[vW,seval,d1,z0L,z3Y,eli,lnR];refine z8 E1 ?_;refine z8 D1 ?_;refine z8 A1 ?_;refine zk (σ:={k:Nat // k≤li.hs.length}) (fun k=>⟨[(3,.pv (.v (.bool true))),(4,.ptr 4 0),(5,.ptr 5 0),(6,I (i:Int)),(14,I (k.1:Int))],[(4,[.pv (.sl 3 (z0t s))]),(5,[.pv (.sl 3 (z0t (z49 s i k.1 li)))])],[],[]⟩) (fun k=>li.hs.length-k.1) ⟨0,Nat.zero_le _⟩ ?_ ?_
  ·exact lwA
  rintro⟨k,hk⟩;by_cases hlk:k<li.hs.length
  ·have d2:(k:Int)<(li.hs.length:Int):=by omega
   obtain⟨h,eh⟩:∃h,li.hs[k]?=some h:=⟨_,gE hlk⟩
   have hho:ChOk m h:=hO.c li hmem h (gM eh);have hok:=zqm hO.r eli eh;have hf:=zrb hok (hg.h h (gM eh));have hw:z04 h=true:=by unfold okV at hok;simp only[Bool.and_eq_true]at hok;exact hok.1.2
   have hl60:=znv hf;have E7:=ziU a0 a1 m h hho hf;unfold ziT at E7;rw[if_pos hw]at E7;have D7:=zmY a0 a1 m h hho hf hw [] [] (by simp only[List.nil_append,List.append_nil];omega);simp only[List.nil_append,List.append_nil,List.length_nil,Nat.zero_add]at D7;have T7:=za2 (a0:=a0) (a1:=a1) ((hP k (by omega)).turnC (zql eli k) (by have:=(hs.g li hmem).2.1;simp only[List.length_take];omega) hho);rw[hok,if_pos rfl,zlZ eli eh]at T7;have h5:=(hs.g li hmem).2.1;have w14:=wS k;unfold scT chT at*;obtain⟨hk0,hf0,hn0,hm0,⟨ht0,ho0⟩,hx0,hy0⟩:=h
   dsimp only at*
   simp only[vW,seval,d1,d2,z0L,z3Y,eli,lnR,z0K,z4x,eh,chR];refine z8 E7 ?_;refine z8 D7 ?_;refine z8 T7 ?_;rw[w14];exact zc ⟨k+1,hlk⟩ (by show li.hs.length-(k+1)<li.hs.length-k;omega) lwA
  ·have d2:¬(k:Int)<(li.hs.length:Int):=by omega
   obtain rfl:k=li.hs.length:=by omega
   rw[zoj eli];simp only[vW,seval,d1,d2,z0L,z3Y,eli,lnR,z0K];rw[w6];exact zc ⟨i+1,hlt⟩ (by show s.length-(i+1)<s.length-i;omega) lwA
 ·have d1:¬(i:Int)<(s.length:Int):=by omega
  obtain rfl:i=s.length:=by omega
  rw[List.take_length];simp only[vW,seval,d1,z0L];refine z8 HC ?_;refine z8 SM ?_;try trivial
end Go.Proofs.YtpmlapgbmgbilaaGreatDoor
end
