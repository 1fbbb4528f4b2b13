/- Merged texts: Wire6 Pr1 WrapW S20 S23 S24 S28 S29 Fl Cd9 Zl5 PSign. No statement of the program is proved here. -/
import Derived.Test.YtcpaleaajdilgaaDoorM17
import Derived.Deep.QuietTactic
import Derived.BigQuiet
import Derived.RangeFuncWrites
set_option linter.unusedSimpArgs false
set_option linter.unusedVariables false
set_option maxRecDepth 100000
set_option maxHeartbeats 8000000
section
namespace Go.Proofs.YtcpaleaajdilgaaDoor
open Go Go.RowKit Go.Mor
section
open Go.Shelf
theorem z4I(s:zB)(a:Int)(b:Nat)(a0 a1:Addr)(w:World)(hs:s.length<1125899906842624)(ha0: -9223372036854775808≤a)(ha1:a≤9223372036854775807)
  (hG:Glob w a0 a1) (hb:w.heap[b]?=some (.cells #[.string (str s),.int .i64 a] 93 (0,0))):
  Calls Tryd.prog 60 #[.pointer (some ⟨b,0,none⟩)] w (z1i s a b a0 a1 w):=by
 by_cases hin:0≤a∧a<s.length
 ·obtain⟨a,rfl⟩:=Int.eq_ofNat_of_zero_le hin.1;exact z8L s a b a0 a1 w hs (by omega) hG hb
 ·refine(z7P s a b a0 a1 w hs ha0 ha1 hG hb hin).mono ?_;rintro e w' ⟨rfl,hbl⟩;unfold z1i;rw[zba hin];exact⟨rfl,hbl⟩
theorem z72(w:World)(t:TypeId)(cs:Array Value):(w.alloc (.cells cs t)).heap[w.heap.size]?=some (.cells cs t (0,0)):=World.alloc_heap_new w _
theorem z29{w w':World}{o:Obj}(hg:(w.alloc o).grownBy w' (some w.heap.size)):Below w.heap.size w w':=
 ((Below.refl w.heap.size w).alloc (Nat.le_refl _) o).grown hg (by simp) (fun k e=>by cases e;exact Nat.le_refl _)
theorem z6F(s:zB)(a:Int)(a0 a1:Addr)(w:World)(hs:s.length<1125899906842624)(ha0: -9223372036854775808≤a)(ha1:a≤9223372036854775807)(hG:Glob w a0 a1):
  Calls Tryd.prog 47 #[.string (str s),.int .i64 a] w fun e w'=>
   e=.returned (z8K (z1p s a))∧Below w.heap.size w w':=by
 have ze:Tryd.prog.follows .mixedOrders=true:=by kernel_rfl
 have hB1:Below w.heap.size w (w.alloc (.cells #[.string (str s),.int .i64 a] 93)):=(Below.refl _ _).alloc (Nat.le_refl _) _;have hG1:=hG.ext hB1;have HN:=Lib.hid (z4I s a w.heap.size a0 a1 _ hs ha0 ha1 hG1 (z72 w 93 #[.string (str s),.int .i64 a]));have HG:=Lib.hid hG;clear hG hG1
 go_enter Tryd.func47,Tryd.ntmps47
 go_wp2_with fail
 refine HN.out.mono ?_;intro e w' hp;unfold z1i at hp;cases hr:rd s a with
 |error t=>
  rw[hr]at hp;have hrn:z1p s a=none:=by simp[z1p,hr]
  have HRN:=Lib.hid hrn;clear hr hrn;cases t
  ·obtain⟨rfl,hbl⟩:=hp;have hbl':=hB1.trans (hbl.mono (by simp));have HW:=Lib.hid (z5B w' a0 a1 (HG.out.ext hbl'))
   go_wp2_with fail
   refine HW.out.mono ?_;rintro e w2 ⟨rfl,rfl⟩
   go_wp2_with fail
   go_ret3
   exact⟨by rw[HRN.out];rfl,hbl'⟩
  ·obtain⟨rfl,hbl⟩:=hp;have hbl':=hB1.trans (hbl.mono (by simp));have HW:=Lib.hid (z4Y w' a0 a1 (HG.out.ext hbl'))
   go_wp2_with fail
   refine HW.out.mono ?_;rintro e w2 ⟨rfl,rfl⟩
   go_wp2_with fail
   go_ret3
   exact⟨by rw[HRN.out];rfl,hbl'⟩
 |ok p=>
  obtain⟨n,z⟩:=p;rw[hr]at hp;have hrn:z1p s a=some (n,a+z):=by simp[z1p,hr]
  have HRN:=Lib.hid hrn;clear hr hrn;obtain⟨rfl,hgr,hbk⟩:=hp;have hbl':=z29 hgr;have HW:=Lib.hid (z5C w' a0 a1 (HG.out.ext hbl'));have c1:w'.cell? ⟨w.heap.size,0+1,none⟩=some (.int .i64 (a+z)):=zW hbk 1
  go_wp2_with fail
  refine HW.out.mono ?_;rintro e w2 ⟨rfl,rfl⟩
  go_wp2_with fail
  refine zH 5 ze (by kernel_rfl) ?_;simp only[List.take_succ_cons,List.take_zero,List.drop_succ_cons,List.drop_zero]
  iterate 5 still_step
  refine wpStill_nil ?_
  go_wp2_with fail
  go_ret3
  exact⟨by rw[HRN.out];rfl,hbl'.drew⟩
theorem z97(s:zB)(w:World)(hs:s.length≤9223372036854775807):
  Calls Tryd.prog 44 #[.string (str s)] w fun e w'=>
   e=.returned (z2F s)∧Below w.heap.size w w':=by
 by_cases hl:s.length≤10000
 ·have hnl:=z7O (s.length:Int)
  go_enter Tryd.func44,Tryd.ntmps44
  go_wp2_with fail
  refine(z71 _ (by omega) (by omega) _).mono ?_;rintro e w2 ⟨rfl,hb2⟩
  go_wp2_with fail
  go_ret2
  exact⟨by rw[z2F,if_pos hl];rfl,hb2⟩
 ·go_enter Tryd.func44,Tryd.ntmps44
  go_wp2_with fail
  go_ret2
  exact⟨by rw[z2F,if_neg hl];rfl,Below.refl _ _⟩
def z0y(s:zB)(a:Int)(b:Nat)(a0 a1:Addr)(w:World)(e:Ending)(w':World):Prop:=
 match rdW s a with
 | .ok (t,z)=>e=.returned (.tuple #[.string (str t),.nilIface])∧w.grownBy w' (some b)∧w'.heap[b]?=some (.cells #[.string (str s),.int .i64 z] 93 (0,0))
 | .error false=>e=.returned (.tuple #[.string (str []),.iface 129 (.pointer (some a0))])∧w.grownBy w' (some b)
 | .error true=>e=.returned (.tuple #[.string (str []),.iface 129 (.pointer (some a1))])∧w.grownBy w' (some b)
theorem z2x{w w':World}{r:Option Nat}(h:Below w.heap.size w w'):w.grownBy w' r:=⟨h.os,h.tape,h.output,h.size,fun k hk _=>h.block k hk⟩
theorem z10{w w':World}{r:Option Nat}(h:w.grownBy w' r):w.grownBy w'.drew r:=⟨h.os,h.tape,h.output,h.size,h.block⟩
theorem z6O{w w' w2:World}{r:Option Nat}(h:w.grownBy w' r)(h2:w'.grownBy w2 r):w.grownBy w2 r:=
 ⟨h2.os.trans h.os,h2.tape.trans h.tape,h2.output.trans h.output,Nat.le_trans h.size h2.size,fun k hk hn=>(h2.block k (Nat.lt_of_lt_of_le hk h.size) hn).trans (h.block k hk hn)⟩
theorem z96(s:zB)(a:Int)(b:Nat)(a0 a1:Addr)(w:World)(hs:s.length<1125899906842624)(ha0: -9223372036854775808≤a)(ha1:a≤9223372036854775807)
  (hG:Glob w a0 a1) (hb:w.heap[b]?=some (.cells #[.string (str s),.int .i64 a] 93 (0,0))) (hbG:1≠b∧0≠b):
  Calls Tryd.prog 58 #[.pointer (some ⟨b,0,none⟩)] w (z0y s a b a0 a1 w):=by
 have ze:Tryd.prog.follows .mixedOrders=true:=by kernel_rfl
 have HN:=Lib.hid (z4I s a b a0 a1 w hs ha0 ha1 hG hb);have HG:=Lib.hid hG;have HB:=Lib.hid hb;clear hG hb
 go_enter Tryd.func58,Tryd.ntmps58
 go_wp2_with fail
 refine HN.out.mono ?_;intro e w' hp;unfold z1i at hp;cases hr:rd s a with
 |error t=>
  rw[hr]at hp;have hrn:rdW s a=.error t:=by simp[rdW,hr]
  have HRN:=Lib.hid hrn;clear hr hrn;cases t
  ·obtain⟨rfl,hbl⟩:=hp
   go_wp2_with fail
   go_ret2
   unfold z0y;rw[HRN.out];exact⟨rfl,z2x hbl⟩
  ·obtain⟨rfl,hbl⟩:=hp
   go_wp2_with fail
   go_ret2
   unfold z0y;rw[HRN.out];exact⟨rfl,z2x hbl⟩
 |ok p=>
  obtain⟨n,z⟩:=p;rw[hr]at hp;have hbd:=z9I hr;have HR:=Lib.hid hr;clear hr;obtain⟨rfl,hgr,hbk⟩:=hp;have e0:=(World.cell?_of_block (w:=w) (a:=⟨1,0,none⟩) (hgr.block 1 (zS HG.out.e0) (by simpa using hbG.1))).trans HG.out.e0;have e1:=(World.cell?_of_block (w:=w) (a:=⟨0,0,none⟩) (hgr.block 0 (zS HG.out.e1) (by simpa using hbG.2))).trans HG.out.e1;have d0:w'.cell? ⟨b,0,none⟩=some (.string (str s)):=zW hbk 0;have d1:w'.cell? ⟨b,0+1,none⟩=some (.int .i64 (a+z)):=zW hbk 1;have d2:w'.frozen? ⟨b,0+1,none⟩=false:=z4u hbk 1;have HBK:=Lib.hid hbk;clear hbk;by_cases hbad:n<0∨10000<n
  ·have HRN:Hid (rdW s a=.error true):=by show _=_;unfold rdW;rw[HR.out];exact if_pos hbad
   have HBD:=Lib.hid hbad;clear hbad;by_cases hn0:n<0
   ·go_wp2_with fail
    go_region
    go_wp2_with fail
    go_ret2
    unfold z0y;rw[HRN.out];exact⟨rfl,z10 hgr⟩
   ·have hn1:10000<n:=by have:=HBD.out;omega
    go_wp2_with fail
    go_region
    go_wp2_with fail
    go_ret2
    unfold z0y;rw[HRN.out];exact⟨rfl,z10 hgr⟩
  ·have hn0:0≤n:=by omega
   have hn1:n≤10000:=by omega
   clear hbad;by_cases hfit:(s.length:Int) - (a+z)<n
   ·have HRN:Hid (rdW s a=.error false):=by
     show _=_;unfold rdW;rw[HR.out];dsimp only;rw[if_neg (by omega),if_pos hfit]
    have hhas:∀W,Calls Tryd.prog 63 #[.string (str s),.int .i64 (a+z),.int .i64 n] W fun e w'=>e=.returned (.bool false)∧w'=W:=fun W=>by
     have:=z3M s (a+z) n W (by omega) (by omega) (by omega)
     rwa [decide_eq_false (by omega)]at this
    have HH:=Lib.hid hhas;clear hhas
    go_wp2_with fail
    refine zH 10 ze (by kernel_rfl) ?_;simp only[List.take_succ_cons,List.take_zero,List.drop_succ_cons,List.drop_zero]
    iterate 9 still_step
    still_call (HH.out _)
    refine wpStill_nil ?_
    go_wp2_with fail
    go_region
    all_goals go_wp2_with fail
    all_goals go_ret2
    all_goals unfold z0y
    all_goals rw[HRN.out]
    all_goals exact⟨rfl,z10 (z10 hgr)⟩
   ·have HRN:Hid (rdW s a=.ok ((s.drop (a+z).toNat).take n.toNat,a+z+n)):=by
     show _=_;unfold rdW;rw[HR.out];dsimp only;rw[if_neg (by omega),if_neg hfit]
    have hhas:∀W,Calls Tryd.prog 63 #[.string (str s),.int .i64 (a+z),.int .i64 n] W fun e w'=>e=.returned (.bool true)∧w'=W:=fun W=>by
     have:=z3M s (a+z) n W (by omega) (by omega) (by omega)
     rwa [decide_eq_true (by omega)]at this
    have HH:=Lib.hid hhas;clear hhas
    go_wp2_with fail
    refine zH 10 ze (by kernel_rfl) ?_;simp only[List.take_succ_cons,List.take_zero,List.drop_succ_cons,List.drop_zero]
    iterate 9 still_step
    still_call (HH.out _)
    refine wpStill_nil ?_
    go_wp2_with fail
    have hb3:(w'.setCell ⟨b,1,none⟩ (.int .i64 (a+z+n))).heap[b]?=some (.cells #[.string (str s),.int .i64 (a+z+n)] 93 (0,0)):=by
     have:=HBK.out;simp[World.setCell,Array.getElem?_modify,this]
    have hg3:w.grownBy (w'.setCell ⟨b,1,none⟩ (.int .i64 (a+z+n))) (some b):=z6O hgr ⟨rfl,rfl,rfl,by simp,fun k _ hk=>Below.heap_setCell _ _ _ k (fun e=>hk (by rw[e]))⟩;obtain⟨W3,hW3⟩:∃W3,(w'.setCell ⟨b,1,none⟩ (.int .i64 (a+z+n)))=W3:=⟨_,rfl⟩
    rw[hW3]at hb3 hg3 ⊢;clear hW3 d0 d1 d2 hgr e0 e1;have d0:W3.cell? ⟨b,0,none⟩=some (.string (str s)):=zW hb3 0;have d1:W3.cell? ⟨b,0+1,none⟩=some (.int .i64 (a+z+n)):=zW hb3 1;have HB3:=Lib.hid hb3;clear hb3;have hw1:IntKind.i64.wrap (a+z)=a+z:=IntWalk.i64_in _ (by omega);have hw5:(0:Int)≤a+z+n:=by omega
    have hw2:(0:Int)≤a+z:=by omega
    have hw3:a+z≤a+z+n:=by omega
    have hw4:a+z+n≤s.length:=by omega
    refine zH 16 ze (by kernel_rfl) ?_;simp only[List.take_succ_cons,List.take_zero,List.drop_succ_cons,List.drop_zero]
    iterate 16 still_step
    refine wpStill_nil ?_;clear hw1
    go_wp2_with fail
    go_ret2
    unfold z0y;rw[HRN.out];refine⟨?_,z10 (z10 hg3),HB3.out⟩;have e1:(a+z+n).toNat-(a+z).toNat=n.toNat:=by omega
    simp[e1]
theorem zah{w:World}{a0 a1:Addr}(hG:Glob w a0 a1):1≠w.heap.size∧0≠w.heap.size:=by
 have h0:=zS hG.e0;have h1:=zS hG.e1
 dsimp only at h0 h1
 omega
theorem z62(s:zB)(a:Int)(a0 a1:Addr)(w:World)(hs:s.length<1125899906842624)(ha0: -9223372036854775808≤a)(ha1:a≤9223372036854775807)(hG:Glob w a0 a1):
  Calls Tryd.prog 46 #[.string (str s),.int .i64 a] w fun e w'=>e=.returned (z7m (z0T s a))∧Below w.heap.size w w':=by
 have ze:Tryd.prog.follows .mixedOrders=true:=by kernel_rfl
 have hB1:Below w.heap.size w (w.alloc (.cells #[.string (str s),.int .i64 a] 93)):=(Below.refl _ _).alloc (Nat.le_refl _) _;have hG1:=hG.ext hB1;have HN:=Lib.hid (z96 s a w.heap.size a0 a1 _ hs ha0 ha1 hG1 (z72 w 93 #[.string (str s),.int .i64 a]) (zah hG));have HG:=Lib.hid hG;clear hG hG1
 go_enter Tryd.func46,Tryd.ntmps46
 go_wp2_with fail
 refine HN.out.mono ?_;intro e w' hp;unfold z0y at hp;cases hr:rdW s a with
 |error t=>
  rw[hr]at hp;have hrn:z0T s a=none:=by simp[z0T,hr]
  have HRN:=Lib.hid hrn;clear hr hrn;cases t
  ·obtain⟨rfl,hgr⟩:=hp;have hbl':=z29 hgr;have HW:=Lib.hid (z5B w' a0 a1 (HG.out.ext hbl'))
   go_wp2_with fail
   refine HW.out.mono ?_;rintro e w2 ⟨rfl,rfl⟩
   go_wp2_with fail
   go_ret3
   exact⟨by rw[HRN.out];rfl,hbl'⟩
  ·obtain⟨rfl,hgr⟩:=hp;have hbl':=z29 hgr;have HW:=Lib.hid (z4Y w' a0 a1 (HG.out.ext hbl'))
   go_wp2_with fail
   refine HW.out.mono ?_;rintro e w2 ⟨rfl,rfl⟩
   go_wp2_with fail
   go_ret3
   exact⟨by rw[HRN.out];rfl,hbl'⟩
 |ok p=>
  obtain⟨t,z⟩:=p;rw[hr]at hp;have hrn:z0T s a=some (t,z):=by simp[z0T,hr]
  have HRN:=Lib.hid hrn;clear hr hrn;obtain⟨rfl,hgr,hbk⟩:=hp;have hbl':=z29 hgr;have HW:=Lib.hid (z5C w' a0 a1 (HG.out.ext hbl'));have c1:w'.cell? ⟨w.heap.size,0+1,none⟩=some (.int .i64 z):=zW hbk 1
  go_wp2_with fail
  refine HW.out.mono ?_;rintro e w2 ⟨rfl,rfl⟩
  go_wp2_with fail
  refine zH 5 ze (by kernel_rfl) ?_;simp only[List.take_succ_cons,List.take_zero,List.drop_succ_cons,List.drop_zero]
  iterate 5 still_step
  refine wpStill_nil ?_
  go_wp2_with fail
  go_ret3
  exact⟨by rw[HRN.out];rfl,hbl'.drew⟩
end
section
open Go.Sh
structure GlobN(a0 a1:Addr)(n:Nat)(w:World):Prop where
 g:Glob w a0 a1
 sz:n≤w.heap.size
 h0:a0.block<n
 h1:a1.block<n
 hv:4≤n
def gl(a0 a1:Addr)(n:Nat):Sh.Glob where
 G:=GlobN a0 a1 n
 n:=n
 st:=fun w w' h hk=>by
  have hv:=h.hv;refine⟨⟨z6b h.hv h.g.toGlobU hk,?_,?_,h.g.ne,?_,?_⟩,z7r h.sz hk,h.h0,h.h1,h.hv⟩
  ·rw[World.cell?_of_block (w:=w) (hk _ (show 1<n by omega))];exact h.g.e0
  ·rw[World.cell?_of_block (w:=w) (hk _ (show 0<n by omega))];exact h.g.e1
  ·rw[hk _ h.h0];exact h.g.b0
  ·rw[hk _ h.h1];exact h.g.b1
 le:=fun w h=>h.sz
theorem za2{a0 a1:Addr}{m f:Nat}{xs:List TV}{os:List MO}{y:TV}{os':List MO}(h:zC (gl0 m) f xs os y os'):zC (gl a0 a1 m) f xs os y os':=
 zbF (g:=gl0 m) (g':=gl a0 a1 m) rfl (fun w (hG:GlobN a0 a1 m w)=>(⟨hG.g.toGlobU,hG.sz,hG.hv⟩:GlobN0 m w)) h
def zbD(r:Option (Int×Int)):TV:=match r with|some (n,b)=> .tuple [I n,I b,I 0]|none=> .tuple [I 0,I 0,I 10]
def zbc(r:Option (zB×Int)):TV:=match r with|some (t,b)=> .tuple [S (str t),I b,I 0]|none=> .tuple [S (str []),I 0,I 10]
def z91(s:zB):TV:=if s.length≤10000 then .tuple [S (str (z05 s)),I 0] else .tuple [S (str []),I 10]
def z7T:zp:=fun f xs os=>
 if Nat.beq f 25 then match xs,os with
  |[.pv (.v (.int .i64 x))],[]=>if z6d x then some (S (str (num x)),[])else none
  |_,_=>none
 else if Nat.beq f 47 then match xs,os with
  |[.pv (.v (.string s)),.pv (.v (.int .i64 a))],[]=>if z6d a&&decide ((bl s).length<1125899906842624)then some (zbD (z1p (bl s) a),[])else none
  |_,_=>none
 else if Nat.beq f 44 then match xs,os with
  |[.pv (.v (.string s))],[]=>if decide ((bl s).length≤9223372036854775807)then some (z91 (bl s),[])else none
  |_,_=>none
 else if Nat.beq f 46 then match xs,os with
  |[.pv (.v (.string s)),.pv (.v (.int .i64 a))],[]=>if z6d a&&decide ((bl s).length<1125899906842624)then some (zbc (z0T (bl s) a),[])else none
  |_,_=>none
 else z5W f xs os
theorem z6S(a0 a1:Addr)(n:Nat):z0c Tryd.prog (gl a0 a1 n) z7T:=by
 intro f xs os y os' h;unfold z7T at h;split at h
 ·rename_i hf;obtain rfl:=Nat.eq_of_beq_eq_true hf;split at h<;>try(cases h;done)
  rename_i x;split at h<;>try(cases h;done)
  rename_i hx;cases h;obtain⟨h1,h2⟩:=z3e hx;exact z1L (vs:=[.int .i64 x]) (z2u (by kernel_rfl)) (fun w E r=> .pv (.v _)) (fun w _=>z71 x h1 h2 w)
 split at h
 ·rename_i hf;obtain rfl:=Nat.eq_of_beq_eq_true hf;split at h<;>try(cases h;done)
  rename_i s a;split at h<;>try(cases h;done)
  rename_i hx;cases h;rw[Bool.and_eq_true]at hx;obtain⟨h1,h2⟩:=z3e hx.1;refine z1L (vs:=[.string s,.int .i64 a]) (v:=z8K (z1p (bl s) a)) (z2u (by kernel_rfl)) (fun w E r=> ?_) (fun w hG=> ?_)
  ·generalize z1p (bl s) a=q;cases q with
   |none=>exact z1K [_,_,_]
   |some p=>exact z1K [_,_,_]
  ·have:=z6F (bl s) a a0 a1 w (by simpa using hx.2) h1 h2 hG.g;rw[z6B]at this;exact this
 split at h
 ·rename_i hf;obtain rfl:=Nat.eq_of_beq_eq_true hf;split at h<;>try(cases h;done)
  rename_i s;split at h<;>try(cases h;done)
  rename_i hx;cases h;refine z1L (vs:=[.string s]) (v:=z2F (bl s)) (z2u (by kernel_rfl)) (fun w E r=> ?_) (fun w hG=> ?_)
  ·unfold z2F z91;split<;>exact z1K [_,_]
  ·have:=z97 (bl s) w (by simpa using hx);rw[z6B]at this;exact this
 split at h
 ·rename_i hf;obtain rfl:=Nat.eq_of_beq_eq_true hf;split at h<;>try(cases h;done)
  rename_i s a;split at h<;>try(cases h;done)
  rename_i hx;cases h;rw[Bool.and_eq_true]at hx;obtain⟨h1,h2⟩:=z3e hx.1;refine z1L (vs:=[.string s,.int .i64 a]) (v:=z7m (z0T (bl s) a)) (z2u (by kernel_rfl)) (fun w E r=> ?_) (fun w hG=> ?_)
  ·generalize z0T (bl s) a=q;cases q with
   |none=>exact z1K [_,_,_]
   |some p=>exact z1K [_,_,_]
  ·have:=z62 (bl s) a a0 a1 w (by simpa using hx.2) h1 h2 hG.g;rw[z6B]at this;exact this
 exact za2 (z4b n _ _ _ _ _ h)
end
end Go.Proofs.YtcpaleaajdilgaaDoor
end

section
namespace Go.Proofs.YtcpaleaajdilgaaDoor
open Go.ChangeShapes Go.WideShapes Go.ChangeAt Go.RowKit Go.Lib Go.Mor Go.Deep
open Go.ChangeMaps (open_string shut_string)
abbrev z56:List (String×DataW Unit):=[("unicode/utf8.acceptRanges",Rows.laid_unicode_utf8_acceptRanges),("moraine/wire.errEnd",Rows.laid_moraine_wire_errEnd),("moraine/wire.errForm",Rows.laid_moraine_wire_errForm),("unicode/utf8.first",Rows.laid_unicode_utf8_first)]
theorem zbq: "*" ++ "errors.errorString" = "*errors.errorString" :=by decide
theorem zbe(u:TypeId)(h:Tryd.prog.typeName? 3 u=some "*errors.errorString"):u=129:=
 typeName_ptr_named (nm:= "errors.errorString") (by rw[zbq];kernel_rfl) (by kernel_rfl) (by decide) u (by rw[zbq];exact h)
theorem z55{W:World}(hL:laidMetH Tryd.prog z56 W)(hsh:W.ShapedOpen Tryd.prog):∃a0 a1,(gl a0 a1 W.heap.size).G W:=by
 have hL':laidMet Tryd.prog z56 W:=hL;have hU:=z9s hL' (.tail _ (.tail _ (.tail _ (.head _)))) (.head _);have hv:=zby hsh;obtain⟨a0,a1,s0,s1,c0,c1,t0,t1,hv0,hv1,_,_,_,_,_,_,hne,hb0,hb1⟩:=laid_sentinels2 (g0:=1) (g1:=0) (ti:=95) (tp:=129) (te:=153) (ts:=9) hL'.tail (by kernel_rfl) (by kernel_rfl) (by kernel_rfl) (by kernel_rfl)
  Tryd.underlying95 zbe Tryd.underlying129 Tryd.underlying153 rfl rfl Tryd.underlying9 (by kernel_rfl) (by kernel_rfl)
 have hG:Glob W a0 a1:=by
  refine⟨hU,?_,?_,hne,⟨c0,t0,hb0⟩,⟨c1,t1,hb1⟩⟩
  ·have:=World.var?_cell (g:=1) (by kernel_rfl) hv0 0;simpa using this
  ·have:=World.var?_cell (g:=0) (by kernel_rfl) hv1 0;simpa using this
 have hN:GlobN a0 a1 W.heap.size W:=⟨hG,Nat.le_refl _,z1Z hb0,z1Z hb1,hv⟩
 exact⟨a0,a1,hN⟩
theorem z7L(os:Os)(args:Array Value):laidMet Tryd.prog z56 ((z2d os).forCall (fun _ _=>0) ⟨#[],args,[]⟩).memory:=
 (LaidIn.of_run [3,1,N0,0,N0+1,2] 8 (by kernel_rfl) (by kernel_rfl) (by kernel_rfl) (by kernel_rfl)).met
end Go.Proofs.YtcpaleaajdilgaaDoor
end

section
namespace Go.Sh
open Go Go.RowKit
section
structure MapTurn(b:Nat)(w w':World):Prop where
 os:w'.os=w.os
 tape:w'.tape=w.tape
 output:w'.output=w.output
 size:w'.heap.size=w.heap.size
 block:∀k,k≠b→w'.heap[k]?=w.heap[k]?
theorem MapTurn.refl(b:Nat)(w:World):MapTurn b w w:=⟨rfl,rfl,rfl,rfl,fun _ _=>rfl⟩
theorem MapTurn.trans{b:Nat}{w w' w'':World}(h:MapTurn b w w')(h':MapTurn b w' w''):MapTurn b w w'':=
 ⟨h'.os.trans h.os,h'.tape.trans h.tape,h'.output.trans h.output,h'.size.trans h.size,fun k hk=>(h'.block k hk).trans (h.block k hk)⟩
section
variable{P:Program}{ops:Array Oper}{Q:Exit→Act→World→Prop}{a:Act}{w:World}{t kt et:TypeId}{z05:Bool}{m b:Nat}
end
end
section
section
variable{B:Base}{b:Nat→Option (List TV)}{r:Rows}{w w':World}{E:Env}{row:Option Nat}
end
def z6q(β:Nat)(W:World)(k:Nat):Prop:=∃p n c,W.cell? ⟨β,0,none⟩=some (.slice (some p) n c)∧p.block=k
structure Kp(O:List Nat)(β n:Nat)(W W':World):Prop where
 size:W.heap.size≤W'.heap.size
 same:∀(k:Nat) (o:Obj),W.heap[k]?=some o→o.isCells=true→k∉O→¬z6q β W k→W'.heap[k]?=some o
 rb:∀k,z6q β W' k→z6q β W k∨W.heap.size≤k
 lt:(∀k,z6q β W k→k<W.heap.size)→∀k,z6q β W' k→k<W'.heap.size
 glob:∀k,k<n→W'.heap[k]?=W.heap[k]?
theorem Kp.refl{O:List Nat}{β n:Nat}(W:World):Kp O β n W W:=⟨Nat.le_refl _,fun _ _ h _ _ _=>h,fun _ h=> .inl h,fun h=>h,fun _ _=>rfl⟩
theorem Kp.trans{O:List Nat}{β n:Nat}{A B C:World}(h:Kp O β n A B)(k:Kp O β n B C):Kp O β n A C:=by
 refine⟨Nat.le_trans h.size k.size,fun j o h1 h2 h3 h4=>k.same j o (h.same j o h1 h2 h3 h4) h2 h3 (fun h5=> ?_),fun j h1=> ?_,fun h1=>k.lt (h.lt h1),fun j hj=>(k.glob j hj).trans (h.glob j hj)⟩
 ·rcases h.rb j h5 with h6|h6<;>grind
 ·rcases k.rb j h1 with h2|h2
  ·exact h.rb j h2
  ·have:=h.size;exact .inr (by omega)
end
section
section
variable{B:Base}{s:FS}{a:Act}{w w':World}{E:Env}{I:List Nat}{N:Nat}
theorem Sim.freeze0(h:Sim B s a w E){d:Nat}{ps:List PV}(hd:s.b d=some (ps.map TV.pv)):
  ∃K',Sim B { s with b:=fun e=>if e=d then none else s.b e } a w { E with K:=K' }∧RelT w { E with K:=K' } s.r (.pv (.el ps)) (.pointer (some ⟨E.β d,0,none⟩))∧∀b o,E.K b o→K' b o:=by
 obtain⟨hbx,hq⟩:=h.mem.box d _ hd;have hk:∀b o u,E.K b o→w.cell? ⟨b,o,none⟩=some u→(E.K b o∨(b=E.β d∧o<ps.length))∧w.cell? ⟨b,o,none⟩=some u:=fun b o u h1 h2=>⟨.inl h1,h2⟩
 have hmono:∀{x:TV} {v:Value},RelT w E s.r x v→RelT w { E with K:=fun b o=>E.K b o∨(b=E.β d∧o<ps.length) } s.r x v:=fun hx=>hx.mono hk (fun _ _=>⟨rfl,rfl⟩) (fun _ _ _ _ _ hd=> .inl ⟨hd,rfl⟩) (Maps.refl w);have hb':∀{e:Nat} {cs:List TV},(if e=d then none else s.b e)=some cs→e≠d∧s.b e=some cs:=fun {e cs} he=>by
  grind
 refine⟨fun b o=>E.K b o∨(b=E.β d∧o<ps.length),⟨h.defers,h.size,fun k x hx=>⟨(h.tmp k x hx).1,hmono (h.tmp k x hx).2⟩,⟨fun e cs he=> ?_,fun e ty W n he=> ?_,fun e e' c c' h1 h2 h3=>h.mem.bb e e' c c' (hb' h1).2 (hb' h2).2 h3,fun e e' c q k cap h1 h2 h3=>h.mem.br e e' c q k cap (hb' h1).2 h2 h3,h.mem.rr,fun k o ho=> ?_,h.mem.low,fun k o u h1 h2=>⟨.inl (h.mem.keep k o u h1 h2).1,(h.mem.keep k o u h1 h2).2⟩,fun k o ho=> ?_,⟨h.mem.pas.β,h.mem.pas.γ,h.mem.pas.row⟩⟩,h.itr,h.ii⟩,?_,fun _ _ h=> .inl h⟩
 ·obtain⟨hed,he⟩:=hb' he;obtain⟨h1,h2⟩:=h.mem.box e cs he;refine⟨⟨h1.lt,h1.obj,h1.fz,fun j c hj=> ?_,fun o ho=> ?_⟩,h2⟩
  ·obtain⟨v,c1,c2,c3⟩:=h1.cell j c hj
   grind
  ·rcases ho with ho|⟨ho,_⟩
   ·exact h1.out o ho
   ·exact hed (h.mem.bb e d _ _ he hd ho)
 ·rcases h.mem.row e ty W n he with h1|⟨k,cap,h1,h2,h3⟩
  ·grind
  ·refine .inr ⟨k,cap,h1,h2,⟨h3.cells,h3.le,h3.max,fun o ho=> ?_⟩⟩;rcases ho with ho|⟨ho,_⟩
   ·exact h3.out o ho
   ·exact absurd ho.symm (h.mem.br d e _ _ k cap hd he h1)
 ·rcases ho with ho|⟨rfl,_⟩
  ·exact h.mem.lt k o ho
  ·exact hbx.lt
 ·rcases ho with ho|⟨rfl,_⟩
  ·exact h.mem.knew k o ho
  ·grind
 ·have hcell:∀(j:Nat) c,ps[j]?=some c→∃v,w.cell? ⟨E.β d,j,none⟩=some v∧one v∧RelV w E.K c v:=fun j c hj=>by
   obtain⟨v,c1,c2,c3⟩:=hbx.cell j (.pv c) (by grind);cases c3 with|pv c3=>exact⟨v,c1,c2,c3⟩
  refine .pv (.el ps (E.β d) 0 (fun j=>(w.cell? ⟨E.β d,j,none⟩).getD undef) (fun j c hj=> ?_) (fun j c hj=> ?_))
  ·grind
  ·obtain⟨v,c1,c2,c3⟩:=hcell j c hj;rw[c1];exact c3.mono hk
end
end
section
variable{B:Base}{s:FS}{a:Act}{w:World}{E:Env}
theorem z2N{W:Nat}:∀{es:List (List PV)},(∀cs∈es,cs.length=W)→∀{i j:Nat} {cs:List PV} {c:PV},es[i]?=some cs→cs[j]?=some c→es.flatten[i*W+j]?=some c
 |[],_,i,j,cs,c,h,_=>by simp at h
 |x::es,hW,i,j,cs,c,h,hc=>by
  cases i with
  |zero=>
   grind
  |succ i=>
   have:=z2N (es:=es) (fun y hy=>hW y (List.mem_cons_of_mem _ hy)) (i:=i) (by grind) hc
   grind
theorem Sim.freezeS(h:Sim B s a w E){d W:Nat}{es:List (List PV)}(hd:s.b d=some (es.flatten.map TV.pv))(hW:∀cs∈es,cs.length=W):
  ∃K',Sim B { s with b:=fun e=>if e=d then none else s.b e } a w { E with K:=K' }∧∀c v,RelT w { E with K:=K' } s.r (.bs d 0 es.length c) v→RelT w { E with K:=K' } s.r (.pv (.sl W es)) v:=by
 obtain⟨K',h1,h2,_⟩:=h.freeze0 hd;refine⟨K',h1,fun c v hv=> ?_⟩;cases hv with
 |bs _ _ _ _ C hn hc hm=>
 cases h2 with
 |pv h2=>
 cases h2 with
 |el _ _ _ f hf hs=>
 refine .pv (.sl W es (E.β d) 0 C (some ⟨E.β d,0,none⟩) (fun i j=>f (i*W+j)) (fun _=>rfl) (by omega) hm hW (fun i j cs c e1 e2=> ?_) (fun i j cs c e1 e2=>hs _ _ (z2N hW e1 e2)))
 grind [z2N]
theorem z8t(s:ES)(d:Nat):(fun e=>if e=d then none else s.fs.b e)=lk (drp [d] s.b):=by
 funext e;rw[z1u];show(if e=d then none else lk s.b e)=_
 grind [has,Nat.beq_refl,only,z1j]
theorem zaY{s:ES}{k d W c:Nat}{es:List (List PV)}(hd:lk s.b d=some (es.flatten.map TV.pv))(hW:∀cs∈es,cs.length=W)(hk:lk s.t k=some (.bs d 0 es.length c)):(⟨sv s.t k (.pv (.sl W es)),drp [d] s.b,s.r,s.i⟩:ES).Lw s:=by
 intro B a w E _ _ hS;obtain⟨K',h1,h2⟩:=hS.freezeS hd hW;refine⟨{ E with K:=K' },?_⟩;have:=h1.reT (k:=k) (x:=.bs d 0 es.length c) (y:=.pv (.sl W es)) hk (h2 c)
 grind [sv,drp,FS.setT,z8t,only,ES.fs,z0K]
theorem zaX{s:ES}{x j d W c:Nat}{cs:List TV}{es:List (List PV)}(hd:lk s.b d=some (es.flatten.map TV.pv))(hW:∀cs∈es,cs.length=W)(hx:x≠d)(hk:lk s.b x=some cs)(hj:cs[j]?=some (.bs d 0 es.length c)):(⟨s.t,sv (drp [d] s.b) x (cs.set j (.pv (.sl W es))),s.r,s.i⟩:ES).Lw s:=by
 intro B a w E _ _ hS;obtain⟨K',h1,h2⟩:=hS.freezeS hd hW;refine⟨{ E with K:=K' },?_⟩;have:=h1.reB (k:=x) (cs:=cs) (ds:=cs.set j (.pv (.sl W es))) (by show(if x=d then none else s.fs.b x)=_;rw[if_neg hx];exact hk) (fun i y hi=>by
  by_cases hij:j=i
  ·subst hij;have hl:j<cs.length:=(gJ hj).1;rw[List.getElem?_set_self hl]at hi;cases hi;exact⟨_,hj,h2 c⟩
  ·rw[List.getElem?_set_ne hij]at hi;exact⟨y,hi,fun v hv=>hv⟩)
 have he:(⟨s.t,sv (drp [d] s.b) x (cs.set j (.pv (.sl W es))),s.r,s.i⟩:ES).fs=FS.setB { s.fs with b:=fun e=>if e=d then none else s.fs.b e } x (cs.set j (.pv (.sl W es))):=by
  rw[z8t];simp only[ES.fs,FS.setB,z0K]
 rw[he];exact this
end
section
section
variable{P:Program}{g:Glob}{N:Nat}{a b c:SCode}{Q Q':SExit→ES→Prop}{s s0:ES}
@[congr] theorem sem_congr (h:s=s0):z0A P g N c Q s=z0A P g N c Q s0:=by rw[h]
theorem z31(h:z0A P g N c Q s)(hq:∀e s,Q e s→Q' e s):z0A P g N c Q' s:=fun H Fp K code ht B a w E h1 h2 h3 h4 h5 h6=>wp_mono (h H Fp K code ht B a w E h1 h2 h3 h4 h5 h6) (by
 rintro x a' w' ⟨e,s',E',q1,q2,q3⟩;exact⟨e,s',E',q1,hq _ _ q2,q3⟩)
theorem z3A(hl:s0.Lw s)(h:z0A P g N c Q s0):z0A P g N c Q s:=by
 intro H Fp K code ht B a w E h1 h2 h3 h4 h5 h6;obtain⟨E',h7⟩:=hl B a w E h2 h3 h6;exact h H Fp K code ht B a w E' h1 h2 h3 h4 h5 h7
theorem z58(h:z0A P g N a (z0G (z0A P g N b Q) Q) s):z0A P g N (.seq a b) Q s:=by
 intro H Fp K code ht B ac w E h1 h2 h3 h4 h5 h6;cases code with
 |seq x y=>
  simp only[zh]at ht;split at ht<;>try(cases ht;done)
  rename_i a' b' ha hb;cases ht;refine wp_seq (wp_mono (h H Fp K x ha B ac w E h1 h2 h3 h4 h5 h6) ?_);rintro z a2 w2 ⟨e,s2,E2,rfl,hq,hS2⟩;cases e with
  |normal=>exact hq H Fp K y hb B a2 w2 E2 h1 h2 h3 h4 h5 hS2
  |exit id=>exact⟨.exit id,s2,E2,rfl,hq,hS2⟩
  |ret=>exact⟨.ret,s2,E2,rfl,hq,hS2⟩
  |pan z=>exact⟨.pan z,s2,E2,rfl,hq,hS2⟩
 |skip|exit id|ret|rangeFunc _ _ _ _=>simp[zh]at ht
 |region id ops draw=>
  grind [only,zh]
 |cond x y z=>
  grind [only,zh]
 |block id x=>
  grind [only,zh,Option.map_eq_some_iff]
 |loop x=>
  grind [only,zh,Option.map_eq_some_iff]
 |_=>simp[zh]at ht
theorem z0x(ze:P.follows .mixedOrders=true)(h:swp P g a (z0G (z0A P g N b Q) Q) s):z0A P g N (.seq a b) Q s:=z58 (z1r ze h)
end
theorem z9e{P:Program}{g:Glob}{f:Nat}{H:Nat→Option Nat→Nat}{Fp:Nat→List (Nat→Option Nat)}{K:Nat→List Nat}{keep:Bool}{F:SFunc}(ze:P.follows .mixedOrders=true)(hF:z7 P f H Fp K keep=some F){xs:List TV}{os os':List MO}{y:TV}(hn:Nat.ble xs.length F.N=true)(hos:Nat.ble os.length 1000=true)(hmo:moOk os os'=true)
  (h:z0A P g F.N F.code (PostR F.res F.keep os.length y os') (startE xs os)):SCalls P g f xs os y os':=
 z3Z ze hF (Nat.le_of_ble_eq_true hn) (Nat.le_of_ble_eq_true hos) hmo (z31 h fun e s he=>by
  cases e with
  |normal=>exact⟨.inr rfl,by rw[z3H];exact he⟩
  |ret=>exact⟨.inl rfl,by rw[z3H];exact he⟩
  |exit id=>exact he.elim
  |pan z=>exact he.elim)
theorem z5h{P:Program}{g:Glob}{f:Nat}{H:Nat→Option Nat→Nat}{Fp:Nat→List (Nat→Option Nat)}{K:Nat→List Nat}{keep:Bool}{F:SFunc}(ze:P.follows .mixedOrders=true)(hF:z7 P f H Fp K keep=some F){xs:List TV}{y:TV}(hn:Nat.ble xs.length F.N=true)
  (h:z0A P g F.N F.code (Post0 F.res y) (startE xs [])):SCalls P g f xs [] y []:=by
 have key:∀s,ansW y (resT s.fs F.res)→exitR F.res F.keep 0 s=some (y,[]):=by
  intro s he;cases hr:resT s.fs F.res with
  |none=>rw[hr]at he;exact he.elim
  |some y0=>
   rw[hr]at he;obtain⟨h1,h2⟩:=he;simp[exitR,exitF,hr,idsFrom,h1,zd,h2,seqO]
 refine z9e ze hF hn rfl rfl (z31 h fun e s he=> ?_);cases e with
 |normal=>exact key s he
 |ret=>exact key s he
 |exit id=>exact he.elim
 |pan z=>exact he.elim
end
end Go.Sh
end

section
namespace Go.Proofs.YtcpaleaajdilgaaDoor
open Go Go.RowKit Go.Mor Go.Sh
def flC(l:List Fld):List PV:=(flR l).flatten
theorem flW(l:List Fld):∀cs∈flR l,cs.length=4:=by
 intro cs h;unfold flR at h;obtain⟨f,_,rfl⟩:=List.mem_map.1 h;rfl
theorem zaf(l:List Fld):(flC l).length=l.length*4:=by unfold flC;rw[z2O (flW l),z3I]
theorem zaW{l:List Fld}{k j:Nat}{f:Fld}{p:PV}(h:l[k]?=some f)(hj:(flR1 f)[j]?=some p):(flC l)[k*4+j]?=some p:=by
 unfold flC;exact z2N (flW l) (by rw[z5T,h];rfl) hj
theorem z74{f':Fld}{p:PV}{j:Nat}(hj:j<4):∀{l:List Fld} {k:Nat} {f:Fld},l[k]?=some f→(flR1 f).set j p=flR1 f'→(flC l).set (k*4+j) p=flC (l.set k f')
 |[],k,f,h,_=>by simp at h
 |g::l,0,f,h,he=>by
  obtain rfl:g=f:=by simpa using h
  show(flR1 g++flC l).set (0*4+j) p=flR1 f'++flC l;rw[Nat.zero_mul,Nat.zero_add,List.set_append_left _ _ (by exact hj),he]
 |g::l,k+1,f,h,he=>by
  show(flR1 g++flC l).set ((k+1)*4+j) p=flR1 g++flC (l.set k f');have:(k+1)*4+j=(flR1 g).length+(k*4+j):=by show _=4+_;omega
  rw[this,List.set_append_right _ _ (by omega),Nat.add_sub_cancel_left,z74 hj (by simpa using h) he]
end Go.Proofs.YtcpaleaajdilgaaDoor
end

section
namespace Go.Sh.Cd9
open Go Go.Sh
abbrev gQ(a:GA):Prop:=gT Go.Proofs.Tryd.prog a
theorem gK{a:GA}(h:gQ a:=by unfold gQ gT;kernel_rfl):gQ a:=h
theorem tf_15:gQ ⟨3,104,[(23,0),(27,0),(30,0),(41,2),(49,0),(54,0),(55,0),(64,1),(66,0),(67,0),(73,0),(75,0),(84,0),(90,0)],[],[[1000001,4,10],[23],[24],[2003,5006,9,11,25],[5,10,25027],[2,28030],[31038],[39],[40041],[42043],[44051],[6,12,44,52054],[],[58060],[61074],[],[78080],[81086],[18,87092],[19022,93099],[3,9,11,13014,16,55057,75077,100],[10,100101],[16,75077,102],[3,9,11,13014,55057,103]],[.tmp 10],false⟩:=gK
theorem tf_19:gQ ⟨8,49,[(19,2)],[],[[0],[4011],[12020],[],[21024],[26027],[25,28047],[1,3,48]],[.cell true 2 2],false⟩:=gK
noncomputable def funcs:Nat→Option SFunc
 |_=>none
end Go.Sh.Cd9
end

section
namespace Go.Proofs.YtcpaleaajdilgaaDoor
open Go Go.RowKit Go.Mor Go.Sh Go.Sh.Cd1 Go.Sh.Cd9
def z3a(f:Fld):Fld:=⟨f.n.take 30,f.t,f.ix⟩
def z1e(c:Cls):Cls:=⟨c.n.take 30,(c.fs.take 12).map z3a⟩
def z0W(l:List Fld)(i:Nat):List Fld:=(l.take i).map z3a++l.drop i
theorem z8j(l:List Fld)(i:Nat):(z0W l i).length=l.length:=by unfold z0W;simp;omega
theorem z65{l:List Fld}{i:Nat}{f:Fld}(h:l[i]?=some f):(z0W l i)[i]?=some f:=by
 have hi:=(gJ h).1;unfold z0W;rw[List.getElem?_append_right (by simp;omega)];simp[Nat.min_eq_left (Nat.le_of_lt hi),h]
theorem z7A{l:List Fld}{i:Nat}{f:Fld}(h:l[i]?=some f):(z0W l i).set i (z3a f)=z0W l (i+1):=by
 have hi:=(gJ h).1;unfold z0W;rw[List.set_append_right _ _ (by simp;omega),List.drop_eq_getElem_cons hi,(gJ h).2,List.take_add_one,h];simp[Nat.min_eq_left (Nat.le_of_lt hi)]
theorem za9(l:List Fld):z0W l 0=l:=rfl
theorem z8i(l:List Fld):z0W l l.length=l.map z3a:=by unfold z0W;simp
theorem z3G(c:Cls):ClsOk (z1e c):=by
 refine⟨?_,fun f hf=> ?_,?_⟩
 ·unfold z1e z2I;simp;omega
 ·unfold z1e at hf;obtain⟨y,_,rfl⟩:=List.mem_map.1 hf;unfold z3a z2I;simp;omega
 ·unfold z1e;simp;omega
theorem zaT(g:Sh.Glob)(c:Cls)(hl:c.fs.length≤9223372036854775807):zC g 8 [clT c] [] (clT (z1e c)) []:=by
 refine z5h ze tf_19 rfl ?_
 conv in SFunc.code _=>reduce
 unfold clT;have m1:min (c.n.length:Int) 30=((min c.n.length 30:Nat):Int):=by omega
 have k1:List.take (min c.n.length 30) c.n=c.n.take 30:=by rw[List.take_eq_take_iff];omega
 have b1:min c.n.length 30≤c.n.length:=by omega
 have m2:min (c.fs.length:Int) 12=((min c.fs.length 12:Nat):Int):=by omega
 have k2:List.take (min c.fs.length 12) (flR c.fs)=flR (c.fs.take 12):=by
  unfold flR;rw[←List.map_take,List.take_eq_take_iff.2 (show min (min c.fs.length 12) c.fs.length=min 12 c.fs.length by omega)]
 have b2:min c.fs.length 12≤c.fs.length:=by omega
 refine z0x ze ?_;simp only[vW,seval];refine z0x ze ?_;simp only[vW,seval,m1,k1,b1];refine⟨by omega,?_⟩;refine z0x ze ?_;simp only[vW,seval,m2,k2,clV];refine⟨by omega,⟨by simp;omega,by unfold maxLen;simp;omega⟩,fun h0=> ?_,fun h0=> ?_⟩
 ·have hL:c.fs.take 12=[]:=by cases h:c.fs.take 12 with
   |nil=>rfl
   |cons x l=>rw[h]at h0;simp[flR]at h0
  unfold z1e;rw[hL];refine z3A (z8S (k:=1) (ds:=[S (str (c.n.take 30)),.pv (.sl 4 [])]) rfl rfl (fun j x y hx hy=>by
   match j with
   |0=>cases hx;cases hy;exact .refl _
   |1=>cases hx;cases hy;exact z4X 4
   |j+2=>simp at hx)) (z1r ze ?_)
  simp only[vW,seval];refine zE (σ:=Unit) (fun _=>⟨[(1,.ptr 1 0),(2,.ptr 2 0),(3,I 0)],[(1,[S (str (c.n.take 30)),.pv (.sl 4 [])]),(2,[S ⟨#[]⟩,.pv (.v (.slice none 0 0))])],[],[]⟩) (fun _=>0) () ?_ ?_
  ·exact lwA
  rintro⟨⟩;simp only[vW,seval];rfl
 ·have hne:c.fs.take 12≠[]:=fun e=>h0 (by rw[e];rfl);unfold z1e;generalize hLL:c.fs.take 12=L at*;have hK:L.length≤12:=by rw[←hLL];simp;omega
  have hcells:(flR L).flatten.map TV.pv=pvC (flC L):=rfl;refine z0x ze ?_;simp only[vW,seval,hcells];refine zE (σ:={i:Nat // i≤L.length}) (fun i=>⟨[(1,.ptr 1 0),(2,.ptr 2 0),(3,I (i.1:Int))],[(1,[S (str (c.n.take 30)),.bs 19 0 L.length L.length]),(2,[S ⟨#[]⟩,.pv (.v (.slice none 0 0))]),(19,pvC (flC (z0W L i.1)))],[],[]⟩) (fun i=>L.length-i.1) ⟨0,Nat.zero_le _⟩ ?_ ?_
  ·apply z0l<;>simp[leL,lk,sv,Nat.beq,I,S,ES.kill,has,drp,zM,za9]
  rintro⟨i,hi⟩;by_cases hlt:i<L.length
  ·have d1:(i:Int)<(L.length:Int):=by omega
   have w1:=wS i;obtain⟨f,ef⟩:∃f,L[i]?=some f:=⟨_,gE hlt⟩
   have er:(pvC (flC (z0W L i)))[i*4+0]?=some (S (str f.n)):=by rw[zas,zaW (j:=0) (z65 ef) rfl];rfl
   have hb4:i*4+0<(flC (z0W L i)).length:=by rw[zaf,z8j];omega
   have m3:min (f.n.length:Int) 30=((min f.n.length 30:Nat):Int):=by omega
   have k3:List.take (min f.n.length 30) f.n=f.n.take 30:=by rw[List.take_eq_take_iff];omega
   simp only[vW,seval,d1,w1,clV];refine⟨hb4,fun b hb=> ?_⟩;rw[er]at hb;cases hb;refine⟨hb4,fun b hb=> ?_⟩;rw[er]at hb;cases hb;simp only[vW,seval,m3,k3,w1];refine⟨⟨by omega,by omega⟩,by omega,hb4,?_⟩;rw[zat hb4,z74 (by decide) (z65 ef) (f':=z3a f) rfl,z7A ef];refine zc ⟨i+1,hlt⟩ (by show L.length-(i+1)<L.length-i;omega) ?_;apply z0l<;>simp[leL,lk,sv,Nat.beq,I,S,ES.kill,has,drp,zM,z2C]
  ·have d1:¬(i:Int)<(L.length:Int):=by omega
   simp only[vW,seval,d1,clV];obtain rfl:i=L.length:=by omega
   rw[z8i];have hl2:(L.map z3a).length=L.length:=List.length_map ..;refine z3A (zaX (x:=1) (j:=1) (d:=19) (W:=4) (c:=L.length) (es:=flR (L.map z3a)) rfl (flW _) (by decide) rfl (by show some _=some _;rw[z3I,hl2])) (z1r ze ?_);simp only[vW,seval]
end Go.Proofs.YtcpaleaajdilgaaDoor
end

section
namespace Go.Mor
open Go
def zl(n b0 b1 b2 b3:Nat):Nat:=
 if b0<128 then 1
 else if 194≤b0∧b0≤223 then(if n<2∨b1<128∨191<b1 then 0 else 2)
 else if 224≤b0∧b0≤239 then(if n<3∨b1<(if b0=224 then 160 else 128)∨(if b0=237 then 159 else 191)<b1∨b2<128∨191<b2 then 0 else 3)
 else if 240≤b0∧b0≤244 then(if n<4∨b1<(if b0=240 then 144 else 128)∨(if b0=244 then 143 else 191)<b1∨b2<128∨191<b2∨b3<128∨191<b3 then 0 else 4)
 else 0
def z0r(l:zB):Nat:=if l=[] then 0 else zl l.length (l.getD 0 0).toNat (l.getD 1 0).toNat (l.getD 2 0).toNat (l.getD 3 0).toNat
theorem z6y(n b0 b1 b2 b3:Nat)(h0:b0<256)(h1:b1<256)(h2:b2<256)(h3:b3<256):
  zl n b0 b1 b2 b3=if(Lib.decodeN n b0 b1 b2 b3).1=65533∧(Lib.decodeN n b0 b1 b2 b3).2=1 then 0 else(Lib.decodeN n b0 b1 b2 b3).2:=by
 unfold zl Lib.decodeN
 repeat' split
 all_goals(simp_all<;>omega)
end Go.Mor
end
