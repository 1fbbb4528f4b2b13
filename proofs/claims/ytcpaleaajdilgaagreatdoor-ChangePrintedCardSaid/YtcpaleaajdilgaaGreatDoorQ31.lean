/- Merged texts: Pr1 PrA PrX Zm0 Zn0 Cd7 Zm1 Zv3 Zm2 S28 S29. No statement of the program is proved here. -/
import Derived.Test.YtcpaleaajdilgaaGreatDoorQ23
import Derived.Test.YtcpaleaajdilgaaGreatDoorQ27
import Derived.Test.YtcpaleaajdilgaaGreatDoorQ30
set_option linter.unusedSimpArgs false
set_option linter.unusedVariables false
set_option maxRecDepth 100000
set_option maxHeartbeats 8000000
section
namespace Go.Proofs.YtcpaleaajdilgaaGreatDoor
open Go Go.RowKit Go.Mor Go.Sh
structure GlobN(a0 a1:Addr)(n:Nat)(w:World):Prop where
 g:Glob w a0 a1
 sz:n≤w.heap.size
 h0:a0.block<n
 h1:a1.block<n
 hv:10≤n
def gl(a0 a1:Addr)(n:Nat):Sh.Glob where
 G:=GlobN a0 a1 n
 n:=n
 st:=fun w w' h hk=>by
  have hv:=h.hv;refine⟨⟨zai h.hv h.g.toGlobU hk,?_,?_,h.g.ne,?_,?_⟩,zbY h.sz hk,h.h0,h.h1,h.hv⟩
  ·rw[World.cell?_of_block (w:=w) (hk _ (show 2<n by omega))];exact h.g.e0
  ·rw[World.cell?_of_block (w:=w) (hk _ (show 3<n by omega))];exact h.g.e1
  ·rw[hk _ h.h0];exact h.g.b0
  ·rw[hk _ h.h1];exact h.g.b1
 le:=fun w h=>h.sz
theorem zqA{a0 a1:Addr}{m f:Nat}{xs:List TV}{os:List MO}{y:TV}{os':List MO}(h:SCalls Tryz.prog (gl0 m) f xs os y os'):SCalls Tryz.prog (gl a0 a1 m) f xs os y os':=
 z9w (g:=gl0 m) (g':=gl a0 a1 m) rfl (fun w (hG:GlobN a0 a1 m w)=>(⟨hG.g.toGlobU,hG.sz,hG.hv⟩:GlobN0 m w)) h
def zdp(r:Option (Int×Int)):TV:=match r with|some (n,b)=> .tuple [I n,I b,I 0]|none=> .tuple [I 0,I 0,I 10]
def zbl(r:Option (zB×Int)):TV:=match r with|some (t,b)=> .tuple [S (str t),I b,I 0]|none=> .tuple [S (str []),I 0,I 10]
def zf9(s:zB):TV:=if s.length≤10000 then .tuple [S (str (text s)),I 0] else .tuple [S (str []),I 10]
def z9q:z0g:=fun f xs os=>
 if Nat.beq f 64 then match xs,os with
  |[.pv (.v (.int .i64 x))],[]=>if zak x then some (S (str (num x)),[])else none
  |_,_=>none
 else if Nat.beq f 124 then match xs,os with
  |[.pv (.v (.string s)),.pv (.v (.int .i64 a))],[]=>if zak a&&decide ((bl s).length<1125899906842624)then some (zdp (z0j (bl s) a),[])else none
  |_,_=>none
 else if Nat.beq f 93 then match xs,os with
  |[.pv (.v (.string s))],[]=>if decide ((bl s).length≤9223372036854775807)then some (zf9 (bl s),[])else none
  |_,_=>none
 else if Nat.beq f 125 then match xs,os with
  |[.pv (.v (.string s)),.pv (.v (.int .i64 a))],[]=>if zak a&&decide ((bl s).length<1125899906842624)then some (zbl (z00 (bl s) a),[])else none
  |_,_=>none
 else zdr f xs os
theorem z4S(a0 a1:Addr)(n:Nat):z3B Tryz.prog (gl a0 a1 n) z9q:=by
 intro f xs os y os' h;unfold z9q at h;split at h
 ·rename_i hf;obtain rfl:=Nat.eq_of_beq_eq_true hf;split at h<;>try(cases h;done)
  rename_i x;split at h<;>try(cases h;done)
  rename_i hx;cases h;obtain⟨h1,h2⟩:=z8j hx;exact z1y (vs:=[.int .i64 x]) (z0A (by kernel_rfl)) (fun w E r=> .pv (.v _)) (fun w _=>zfW x h1 h2 w)
 split at h
 ·rename_i hf;obtain rfl:=Nat.eq_of_beq_eq_true hf;split at h<;>try(cases h;done)
  rename_i s a;split at h<;>try(cases h;done)
  rename_i hx;cases h;rw[Bool.and_eq_true]at hx;obtain⟨h1,h2⟩:=z8j hx.1;refine z1y (vs:=[.string s,.int .i64 a]) (v:=zjQ (z0j (bl s) a)) (z0A (by kernel_rfl)) (fun w E r=> ?_) (fun w hG=> ?_)
  ·generalize z0j (bl s) a=q;cases q with
   |none=>exact z43 [_,_,_]
   |some p=>exact z43 [_,_,_]
  ·have:=zfl (bl s) a a0 a1 w (by simpa using hx.2) h1 h2 hG.g;rw[zf5]at this;exact this
 split at h
 ·rename_i hf;obtain rfl:=Nat.eq_of_beq_eq_true hf;split at h<;>try(cases h;done)
  rename_i s;split at h<;>try(cases h;done)
  rename_i hx;cases h;refine z1y (vs:=[.string s]) (v:=z71 (bl s)) (z0A (by kernel_rfl)) (fun w E r=> ?_) (fun w hG=> ?_)
  ·unfold z71 zf9;split<;>exact z43 [_,_]
  ·have:=zkS (bl s) w (by simpa using hx);rw[zf5]at this;exact this
 split at h
 ·rename_i hf;obtain rfl:=Nat.eq_of_beq_eq_true hf;split at h<;>try(cases h;done)
  rename_i s a;split at h<;>try(cases h;done)
  rename_i hx;cases h;rw[Bool.and_eq_true]at hx;obtain⟨h1,h2⟩:=z8j hx.1;refine z1y (vs:=[.string s,.int .i64 a]) (v:=zgD (z00 (bl s) a)) (z0A (by kernel_rfl)) (fun w E r=> ?_) (fun w hG=> ?_)
  ·generalize z00 (bl s) a=q;cases q with
   |none=>exact z43 [_,_,_]
   |some p=>exact z43 [_,_,_]
  ·have:=zdB (bl s) a a0 a1 w (by simpa using hx.2) h1 h2 hG.g;rw[zf5]at this;exact this
 exact zqA (z9T n _ _ _ _ _ h)
structure GlobNA(a0 a1:Addr)(n:Nat)(w:World):Prop extends GlobN a0 a1 n w where
 t:GlobT w
def glA(a0 a1:Addr)(n:Nat):Sh.Glob where
 G:=GlobNA a0 a1 n
 n:=n
 st:=fun w w' h hk=>⟨(gl a0 a1 n).st w w' h.toGlobN hk,zeb h.hv h.t hk⟩
 le:=fun w h=>h.sz
theorem zqy{a0 a1:Addr}{m f:Nat}{xs:List TV}{os:List MO}{y:TV}{os':List MO}(h:SCalls Tryz.prog (gl a0 a1 m) f xs os y os'):SCalls Tryz.prog (glA a0 a1 m) f xs os y os':=
 z9w (g:=gl a0 a1 m) (g':=glA a0 a1 m) rfl (fun w (hG:GlobNA a0 a1 m w)=>hG.toGlobN) h
structure GlobNX(a0 a1:Addr)(n:Nat)(w:World):Prop extends GlobNA a0 a1 n w where
 e:GlobE w
def glX(a0 a1:Addr)(n:Nat):Sh.Glob where
 G:=GlobNX a0 a1 n
 n:=n
 st:=fun w w' h hk=>⟨(glA a0 a1 n).st w w' h.toGlobNA hk,zea h.hv h.e hk⟩
 le:=fun w h=>h.sz
theorem zqz{a0 a1:Addr}{m f:Nat}{xs:List TV}{os:List MO}{y:TV}{os':List MO}(h:SCalls Tryz.prog (glA a0 a1 m) f xs os y os'):SCalls Tryz.prog (glX a0 a1 m) f xs os y os':=
 z9w (g:=glA a0 a1 m) (g':=glX a0 a1 m) rfl (fun w (hG:GlobNX a0 a1 m w)=>hG.toGlobNA) h
theorem z2n{a0 a1:Addr}{m f:Nat}{xs:List TV}{os:List MO}{y:TV}{os':List MO}(h:SCalls Tryz.prog (gl a0 a1 m) f xs os y os'):SCalls Tryz.prog (glX a0 a1 m) f xs os y os':=zqz (zqy h)
theorem z2O{a0 a1:Addr}{m f:Nat}{xs:List TV}{os:List MO}{y:TV}{os':List MO}(h:SCalls Tryz.prog (glE m) f xs os y os'):SCalls Tryz.prog (glX a0 a1 m) f xs os y os':=
 z9w (g:=glE m) (g':=glX a0 a1 m) rfl (fun w (hG:GlobNX a0 a1 m w)=>(⟨⟨⟨hG.g.toGlobU,hG.sz,hG.hv⟩,hG.t⟩,hG.e⟩:GlobNE m w)) h
theorem zaJ(p q:Bool):z04 Tryz.prog (do eqGuard .neq 4 (.const (.bool p)) (.const (.bool q)) (.bool p) (.bool q);binOp .neq 4 (.bool p) (.bool q))=some (.pv (.v (.bool (p !=q))),.no):=by
 cases p<;>cases q<;>kernel_rfl
theorem bNV:((false !=false)=false)∧((false !=true)=true)∧((true !=false)=true)∧((true !=true)=false):=⟨rfl,rfl,rfl,rfl⟩
theorem zqi(a b c d:Int):zr Tryz.prog (Op.equal 46 (.agg #[.int .i64 a,.int .i64 b]) (.agg #[.int .i64 c,.int .i64 d]))=some (z0h ⟨a,b⟩ ⟨c,d⟩):=by
 unfold Op.equal;obtain⟨n,hn⟩:∃n,Op.maxDepth=n+1+1:=⟨_,rfl⟩
 rw[hn,z2e _ _ _ _ (by kernel_rfl) (by kernel_rfl)];obtain⟨f,g,hl,nf,ng,pf,pg,ef,eg⟩:=zaG;rw[hl];simp only[Op.eqFields,nf,ng,ne_eq,not_false_eq_true,if_true,zZ,pf,pg,ef,eg,Option.bind_some];unfold z0h;cases h:(a==c)
 ·simp[h,z1X]
 ·cases h2:(b==d)<;>simp[h,h2,z1X,zZ,pg,eg,ng]
theorem z7q(a b c d:Int):z04 Tryz.prog (do eqGuard .neq 46 (.const (.agg #[.int .i64 a,.int .i64 b])) (.const (.agg #[.int .i64 c,.int .i64 d])) (.agg #[.int .i64 a,.int .i64 b]) (.agg #[.int .i64 c,.int .i64 d]);binOp .neq 46 (.agg #[.int .i64 a,.int .i64 b]) (.agg #[.int .i64 c,.int .i64 d]))=
  some (.pv (.v (.bool (!z0h ⟨a,b⟩ ⟨c,d⟩))),.no):=by
 unfold z04;rw[zZ];have hg:zr Tryz.prog (eqGuard .neq 46 (.const (.agg #[.int .i64 a,.int .i64 b])) (.const (.agg #[.int .i64 c,.int .i64 d])) (.agg #[.int .i64 a,.int .i64 b]) (.agg #[.int .i64 c,.int .i64 d]))=some ():=by kernel_rfl
 rw[hg,Option.bind_some];have hb:binOp .neq 46 (.agg #[.int .i64 a,.int .i64 b]) (.agg #[.int .i64 c,.int .i64 d])=(Op.equal 46 (.agg #[.int .i64 a,.int .i64 b]) (.agg #[.int .i64 c,.int .i64 d])>>=fun r=>pure (.bool (!r))):=rfl;rw[hb,zZ,zqi];rfl
theorem zmW(n:Nat)(a b c d:Int):zr Tryz.prog (Op.equalIn (n+1+1) 46 (.agg #[.int .i64 a,.int .i64 b]) (.agg #[.int .i64 c,.int .i64 d]))=some (z0h ⟨a,b⟩ ⟨c,d⟩):=by
 rw[z2e _ _ _ _ (by kernel_rfl) (by kernel_rfl)];obtain⟨f,g,hl,nf,ng,pf,pg,ef,eg⟩:=zaG;rw[hl];simp only[Op.eqFields,nf,ng,ne_eq,not_false_eq_true,if_true,zZ,pf,pg,ef,eg,Option.bind_some];unfold z0h;cases h:(a==c)
 ·simp[h,z1X]
 ·cases h2:(b==d)<;>simp[h,h2,z1X,zZ,pg,eg,ng]
structure PartOk(f:Field)(x y:Array Value)(a b:Value)(e:Bool):Prop where
 nm:f.name≠ "_"
 px:zr Tryz.prog (part f.type x f.offset)=some a
 py:zr Tryz.prog (part f.type y f.offset)=some b
 eq:∀n,zr Tryz.prog (Op.equalIn (n+1+1) f.type a b)=some e
theorem z1s{f:Field}{l:List Field}{x y:Array Value}{a b:Value}{e r:Bool}{n:Nat}(h:PartOk f x y a b e)(hl:zr Tryz.prog (Op.eqFields (n+1+1) x y l)=some r):zr Tryz.prog (Op.eqFields (n+1+1) x y (f::l))=some (e&&r):=by
 obtain⟨h1,h2,h3,h4⟩:=h;simp only[Op.eqFields,h1,ne_eq,not_false_eq_true,if_true,zZ,h2,h3,h4,Option.bind_some];cases e
 ·simp[z1X]
 ·simpa using hl
theorem zcI{x y:Array Value}{n:Nat}:zr Tryz.prog (Op.eqFields n x y [])=some true:=rfl
theorem prS(n:Nat)(a b:ByteArray):zr Tryz.prog (Op.equalIn (n+1) 9 (.string a) (.string b))=some (a==b):=by kernel_rfl
theorem prI(n:Nat)(a b:Int):zr Tryz.prog (Op.equalIn (n+1) 3 (.int .i64 a) (.int .i64 b))=some (a==b):=by kernel_rfl
theorem prB(n:Nat)(a b:Bool):zr Tryz.prog (Op.equalIn (n+1) 4 (.bool a) (.bool b))=some (a==b):=by kernel_rfl
def fldA(s:ByteArray)(k o:Int)(b:Bool):Array Value:= #[.string s,.int .i64 k,.int .i64 o,.bool b]
theorem zp5(s s':ByteArray)(k k' o o':Int)(b b':Bool):zr Tryz.prog (Op.equal 55 (.agg (fldA s k o b)) (.agg (fldA s' k' o' b')))=some ((s==s')&&(z0h ⟨k,o⟩ ⟨k',o'⟩&&((b==b')&&true))):=by
 unfold Op.equal;obtain⟨n,hn⟩:∃n,Op.maxDepth=n+1+1+1:=⟨_,rfl⟩
 rw[hn,z2e _ _ _ _ (by kernel_rfl) (by kernel_rfl)];obtain⟨f,g,h,hl⟩:∃f g h,(Tryz.prog.fieldsOf 55).toList=[f,g,h]∧PartOk f (fldA s k o b) (fldA s' k' o' b') (.string s) (.string s') (s==s')∧PartOk g (fldA s k o b) (fldA s' k' o' b') (.agg #[.int .i64 k,.int .i64 o]) (.agg #[.int .i64 k',.int .i64 o']) (z0h ⟨k,o⟩ ⟨k',o'⟩)∧PartOk h (fldA s k o b) (fldA s' k' o' b') (.bool b) (.bool b') (b==b'):=
  ⟨(Tryz.prog.fieldsOf 55).toList.getD 0 default,(Tryz.prog.fieldsOf 55).toList.getD 1 default,(Tryz.prog.fieldsOf 55).toList.getD 2 default,by kernel_rfl,
   ⟨of_decide_eq_true (by kernel_rfl),by kernel_rfl,by kernel_rfl,fun n=>prS (n+1) _ _⟩,⟨of_decide_eq_true (by kernel_rfl),by kernel_rfl,by kernel_rfl,fun n=>zmW n _ _ _ _⟩,⟨of_decide_eq_true (by kernel_rfl),by kernel_rfl,by kernel_rfl,fun n=>prB (n+1) _ _⟩⟩
 rw[hl.1];exact z1s hl.2.1 (z1s hl.2.2.1 (z1s hl.2.2.2 zcI))
theorem zjE(s s':ByteArray)(k k' o o':Int)(b b':Bool):z04 Tryz.prog (do eqGuard .neq 55 (.const (.agg #[.string s,.int .i64 k,.int .i64 o,.bool b])) (.const (.agg #[.string s',.int .i64 k',.int .i64 o',.bool b'])) (.agg #[.string s,.int .i64 k,.int .i64 o,.bool b]) (.agg #[.string s',.int .i64 k',.int .i64 o',.bool b']);binOp .neq 55 (.agg #[.string s,.int .i64 k,.int .i64 o,.bool b]) (.agg #[.string s',.int .i64 k',.int .i64 o',.bool b']))=
  some (.pv (.v (.bool (!((s==s')&&(z0h ⟨k,o⟩ ⟨k',o'⟩&&((b==b')&&true)))))),.no):=by
 unfold z04;rw[zZ];have hg:zr Tryz.prog (eqGuard .neq 55 (.const (.agg #[.string s,.int .i64 k,.int .i64 o,.bool b])) (.const (.agg #[.string s',.int .i64 k',.int .i64 o',.bool b'])) (.agg #[.string s,.int .i64 k,.int .i64 o,.bool b]) (.agg #[.string s',.int .i64 k',.int .i64 o',.bool b']))=some ():=by kernel_rfl
 rw[hg,Option.bind_some];have hb:binOp .neq 55 (.agg #[.string s,.int .i64 k,.int .i64 o,.bool b]) (.agg #[.string s',.int .i64 k',.int .i64 o',.bool b'])=(Op.equal 55 (.agg (fldA s k o b)) (.agg (fldA s' k' o' b'))>>=fun r=>pure (.bool (!r))):=rfl;rw[hb,zZ,zp5];rfl
end Go.Proofs.YtcpaleaajdilgaaGreatDoor
end

section
namespace Go.Sh.Cd7
open Go Go.Sh
abbrev gQ(a:GA):Prop:=gT Go.Proofs.Tryz.prog a
theorem gK{a:GA}(h:gQ a:=by unfold gQ gT;kernel_rfl):gQ a:=h
theorem tf_113:gQ ⟨10,164,[],[],[[0,2,6],[33],[34],[1,3,5,7,35],[3,6,35037],[1,38040],[5,41046],[11,47],[7010,48055],[6,48,56],[],[57],[59060],[58,61062],[63],[64066],[64,67],[14,16,68074],[15,75079],[17,19,80084],[7010,12013,18,85],[6,85086],[18,87089],[18,87,90091],[12013,92096],[20,23,97102],[103108],[109114],[10,115121],[8009,22,122128],[7,21,24032,129163]],[.tmp 6],false⟩:=gK
theorem tf_115:gQ ⟨22,187,[],[],[[0],[26],[27030],[31032],[33038],[39046],[47050],[51052],[53058],[59066],[3,14,67072],[16,73078],[79083],[84089],[23024,90099],[1002,4013,15,17022,25,100186]],[.tmp 0],false⟩:=gK
theorem tf_112:gQ ⟨23,110,[],[],[[1000001,5],[9],[10023],[6,24051],[52054],[2,55067],[2,55,68],[70074,104],[76],[7,69,75,77084],[75,86],[7,69,85,87093],[85,95],[7,69,94,96103],[7,69,94,105],[3,8,104,106109]],[.cell true 8 4,.tmp 5],false⟩:=gK
theorem tf_117:gQ ⟨25,13,[],[],[[4],[5],[6009],[1000001,6,10012]],[.tmp 4],false⟩:=gK
theorem tf_42:gQ ⟨27,8,[],[],[[1000001,4],[2003,5007]],[.tmp 4],false⟩:=gK
theorem tf_40:gQ ⟨28,50,[],[],[[0,2003],[7008],[1,9],[2003,9012],[13018],[],[22024],[6,25028],[29],[19021,30040],[1,4,41049]],[.tmp 2,.tmp 3],false⟩:=gK
theorem tf_39:gQ ⟨29,38,[(12,1),(13,1),(14,1),(15,1),(17,1),(20,1),(23,1),(25,1)],[(9,[[(0,8),(2,7),(3,4)]])],[[5006],[1000001,9011],[12016],[17019],[20022],[23024],[25026],[27032],[7008,33034],[7008,33,35037]],[.cell true 8 4,.tmp 5,.tmp 6],false⟩:=gK
theorem tf_38:gQ ⟨30,27,[],[],[[1000001,5],[8009],[2003,10011],[3,5,10,12017],[7,18],[2,6,19020],[2,6,19,21026]],[.cell true 2 4,.tmp 5],false⟩:=gK
theorem tf_43:gQ ⟨31,33,[],[],[[1000001,6007],[8,12017],[18],[2004,9,19020],[3004,6007,9,19,21026],[11,27],[2,10,28],[2,10,28032]],[.tmp 6,.tmp 7],false⟩:=gK
theorem tf_41:gQ ⟨32,14,[],[],[[1000001,4],[2003,5,7012],[6,13]],[.tmp 4],false⟩:=gK
theorem tf_147:gQ ⟨39,27,[],[],[[4],[6009],[1000001,10],[4,10],[11013],[4,15016,26],[14,17025],[1000001,5,26],[1000001,5]],[.tmp 4],false⟩:=gK
theorem tf_128:gQ ⟨43,38,[],[],[[1000001,4],[6018],[2003,19],[4,19],[20023],[4,25026,37],[24,27036],[2003,5,37],[2003,5]],[.tmp 4],false⟩:=gK
abbrev c_114_0:=kV [4,5] [kO 4 1,kO 5 2,oD 6 (.mov (.val (.string ⟨#[]⟩)))] [1,2,6]
abbrev c_114_1:=kV [2068,2069,2070,2071] [oL 14 true 2 5,oM 15 0,oD 16 (.build [(.int .i64 0),(.int .i64 0)] [(0,1,(vI 1))]),kE 17 111 0 14 15 16,oM 13 17,kY 18 13 0,kY 19 13 1,oM 7 18,oM 8 19] [13,14,15,16,17,18,19]
abbrev c_114_2:=kV [2100,2101,2102,2103] [oL 21 true 2 5,oM 22 0,kK 23 .quo 3 22 2,oD 24 (.build [(.int .i64 0),(.int .i64 0)] [(0,1,(vI 2))]),kE 25 111 0 21 23 24,oM 20 25,kY 26 20 0,kY 27 20 1,oM 9 26,oM 10 27] [20,21,22,23,24,25,26,27]
abbrev c_114_3:=kR [oM 28 8,kN 29 28] [8,28]
abbrev c_114_4:=kR [oD 7 (.mov (.val (.string ⟨#[55]⟩)))] [29]
abbrev c_114_5:=kR [oM 30 10,kN 31 30] [10,29,30]
abbrev c_114_6:=kR [oD 9 (.mov (.val (.string ⟨#[34,97,32,98,34]⟩)))] [31]
abbrev c_114_7:=kR [kA 32 0 4,oL 33 false 1 32] [31,32]
abbrev c_114_8:=kR [kK 35 .eql 3 33 1,oM 34 35] [35]
abbrev c_114_9:=kV [2240,2241,2242,2243] [oM 36 7,oM 37 7,oD 38 (.bin .add 9 (.tmp 37) (.val (.string ⟨#[32,42,32,50,32,45,32,49]⟩))),oM 39 9,oD 40 (.bin .add 9 (.val (.string ⟨#[108,101,110,40]⟩)) (.tmp 39)),oD 41 (.bin .add 9 (.tmp 40) (.val (.string ⟨#[41]⟩))),oM 42 7,oD 43 (.bin .add 9 (.val (.string ⟨#[105,102,40]⟩)) (.tmp 42)),oD 44 (.bin .add 9 (.tmp 43) (.val (.string ⟨#[32,62,32,50,44,32]⟩))),oM 45 7,kB 46 .add 9 44 45,oD 47 (.bin .add 9 (.tmp 46) (.val (.string ⟨#[44,32,48,32,45,32]⟩))),oM 48 7,kB 49 .add 9 47 48,oD 50 (.bin .add 9 (.tmp 49) (.val (.string ⟨#[41]⟩))),oM 51 9,oD 52 (.bin .add 9 (.val (.string ⟨#[102,105,110,100,40,34,98,34,44,32]⟩)) (.tmp 51)),oD 53 (.bin .add 9 (.tmp 52) (.val (.string ⟨#[41]⟩))),oM 54 7,oD 55 (.bin .add 9 (.tmp 54) (.val (.string ⟨#[32,47,32]⟩))),oM 56 7,kB 57 .add 9 55 56,oD 58 (.bsl 1 [.val (.string ⟨#[]⟩),.val (.string ⟨#[51]⟩),.tmp 36,.tmp 38,.tmp 41,.tmp 50,.tmp 53,.tmp 57]),oM 59 0,oD 60 (.call 25 0 [.tmp 59,vI 8]),kX 61 1 58 60,oL 62 false 1 61,oM 6 62] [0,4,5,7,9,33,34,36,37,38,39,40,41,42,43,44,45,46,47,48,49,50,51,52,53,54,55,56,57,58,59,60,61,62]
abbrev c_114_10:=kR [kK 64 .eql 3 33 2,oM 63 64] [33,34,64]
abbrev c_114_11:=kV [2348,2349,2350,2351] [oM 65 9,oM 66 9,oD 67 (.bin .add 9 (.tmp 66) (.val (.string ⟨#[32,38,32,34,45,34,32,38,32]⟩))),oM 68 9,kB 69 .add 9 67 68,oM 70 7,oD 71 (.bin .add 9 (.val (.string ⟨#[116,101,120,116,40]⟩)) (.tmp 70)),oD 72 (.bin .add 9 (.tmp 71) (.val (.string ⟨#[41]⟩))),oM 73 9,oD 74 (.bin .add 9 (.val (.string ⟨#[108,101,102,116,40]⟩)) (.tmp 73)),oD 75 (.bin .add 9 (.tmp 74) (.val (.string ⟨#[44,32,50,41]⟩))),oM 76 9,oD 77 (.bin .add 9 (.val (.string ⟨#[102,114,111,109,40]⟩)) (.tmp 76)),oD 78 (.bin .add 9 (.tmp 77) (.val (.string ⟨#[44,32,51,41]⟩))),oM 79 7,oD 80 (.bin .add 9 (.val (.string ⟨#[105,102,40]⟩)) (.tmp 79)),oD 81 (.bin .add 9 (.tmp 80) (.val (.string ⟨#[32,61,32,49,44,32]⟩))),oM 82 9,kB 83 .add 9 81 82,oD 84 (.bin .add 9 (.tmp 83) (.val (.string ⟨#[44,32,34,110,111,34,41]⟩))),oD 85 (.bsl 1 [.val (.string ⟨#[]⟩),.val (.string ⟨#[34,120,34]⟩),.tmp 65,.tmp 69,.tmp 72,.tmp 75,.tmp 78,.tmp 84]),oM 86 0,oD 87 (.call 25 0 [.tmp 86,vI 8]),kX 88 1 85 87,oL 89 false 1 88,oM 6 89] [0,4,5,7,9,63,65,66,67,68,69,70,71,72,73,74,75,76,77,78,79,80,81,82,83,84,85,86,87,88,89]
abbrev c_114_12:=kV [2376,2377,2378,2379] [oL 91 true 2 5,oM 92 0,oL 93 true 2 4,kE 94 111 0 91 92 93,oM 90 94,kY 95 90 0,kY 96 90 1,oM 11 95,oM 12 96] [4,5,6,7,9,63,90,91,92,93,94,95,96]
abbrev c_114_13:=kV [2400,2401,2402,2403] [oM 97 12,oM 98 97,oH 99 98 true 0,oG 100 98 true (.call 25 0 [.tmp 99,vI 3]),kG 101 98 true .gtr 3 100 0,oP 102 98 101 false] [0,12,97,98,99,100,101]
abbrev c_114_14:=kR [oM 103 11,oM 6 103] [11,102,103]
abbrev c_114_15:=kR [oD 6 (.mov (.val (.string ⟨#[]⟩)))] [11,102]
abbrev F_114:SFunc:=⟨104,(.seq c_114_0 (.seq c_114_1 (.seq c_114_2 (.seq (.seq c_114_3 (.cond (.tmp 29) c_114_4 .skip)) (.seq (.seq c_114_5 (.cond (.tmp 31) c_114_6 .skip)) (.seq (.seq c_114_7 (.block 0 (.seq c_114_8 (.cond (.tmp 34) (.seq c_114_9 .ret) (.seq c_114_10 (.cond (.tmp 63) (.seq c_114_11 .ret) .skip)))))) (.seq c_114_12 (.seq (.seq c_114_13 (.cond (.tmp 102) (.seq c_114_14 .ret) .skip)) (.seq c_114_15 .ret))))))))),[.tmp 6],false⟩
theorem tf_114:z0e Go.Proofs.Tryz.prog 58 (z62 [(17,0),(25,0),(58,0),(60,0),(85,0),(87,0),(94,0),(100,0)]) (fpT []) (z5l [(0,[1,2,6]),(1,[13,14,15,16,17,18,19]),(2,[20,21,22,23,24,25,26,27]),(3,[8,28]),(4,[29]),(5,[10,29,30]),(6,[31]),(7,[31,32]),(8,[35]),(9,[0,4,5,7,9,33,34,36,37,38,39,40,41,42,43,44,45,46,47,48,49,50,51,52,53,54,55,56,57,58,59,60,61,62]),(10,[33,34,64]),(11,[0,4,5,7,9,63,65,66,67,68,69,70,71,72,73,74,75,76,77,78,79,80,81,82,83,84,85,86,87,88,89]),(12,[4,5,6,7,9,63,90,91,92,93,94,95,96]),(13,[0,12,97,98,99,100,101]),(14,[11,102,103]),(15,[11,102])]) false=some F_114:=by kernel_rfl
theorem tf_146:gQ ⟨59,146,[],[],[[1000001,4],[15021],[2003,22],[4005,22029],[7,30036],[9,37043],[44047],[48053],[54],[57],[2003,6,8,10012,55056,58065],[56,67],[2003,6,8,10012,55,66,68],[66,70],[2003,6,8,10012,55,69,71075],[69,77],[2003,6,8,10012,55,76,78081],[55,76,83],[2003,6,8,10012,82,84127],[3004,8,10012,14,82,128134],[2,6,13,135145]],[.tmp 4],false⟩:=gK
theorem tf_52:gQ ⟨63,66,[],[],[[0,2],[5010],[4,11035],[1,3,36],[2,36052],[1,3,53],[1,3,53065]],[.tmp 2],false⟩:=gK
theorem tf_53:gQ ⟨65,11,[],[],[[2],[0,4009],[3,10]],[.tmp 2],false⟩:=gK
theorem tf_0:gQ ⟨66,35,[],[],[[2],[6018],[5,19025],[0,3004,26029],[],[0,2,4,26,30033],[3,34]],[.tmp 2],false⟩:=gK
theorem tf_1:gQ ⟨67,35,[],[],[[2],[6018],[5,19025],[0,3004,26029],[],[0,2,4,26,30033],[3,34]],[.tmp 2],false⟩:=gK
theorem tf_44:gQ ⟨68,61,[],[],[[1000001,5],[8014],[2003,15016],[5,15,17020],[21033],[34042],[2,43051],[3,6,52056],[7,57060]],[.cell true 3 4,.tmp 5],false⟩:=gK
theorem tf_116:gQ ⟨111,35,[],[],[[0,2,6007],[],[10013],[6007,9,15016,32],[14,17028],[29031],[1,3,5,8009,32034],[1,3,5,8]],[.tmp 6,.tmp 7],false⟩:=gK
theorem tf_126:gQ ⟨112,62,[],[],[[0,2],[6014],[1,15],[2,15],[16019],[4005,21022],[20,23027],[28046],[1,3004,47],[2,47],[48049],[2,51052,61],[50,53060],[1,3005,61],[1,3]],[.tmp 2],false⟩:=gK
theorem tf_145:gQ ⟨113,82,[],[],[[0,2],[3015],[1,16],[2,16024],[1,25],[2,25043],[1,44],[2,44062],[1,63],[1,63081]],[.tmp 2],false⟩:=gK
theorem tf_150:gQ ⟨114,33,[],[],[[1002,6],[12],[0,4005,13],[0,6,8009,13019],[4,7,20025],[5,10011,26032]],[.tmp 6],false⟩:=gK
theorem tf_48:gQ ⟨120,22,[],[],[[3],[0],[6],[4005,7],[5,9],[10],[4,8,11],[8,13],[4,12,14],[12,16],[4,15,17],[4,15,19],[18,20],[18,21]],[.cell true 6 2,.tmp 3],false⟩:=gK
theorem tf_47:gQ ⟨121,12,[],[],[[4],[1,5],[0,6008],[0,6,9011]],[.tmp 4],false⟩:=gK
theorem tf_45:gQ ⟨122,20,[],[],[[4],[8],[1000001,9],[1,4,9010],[0,11],[0,4006,11017],[7,18019]],[.tmp 4],false⟩:=gK
theorem tf_49:gQ ⟨126,37,[],[],[[0,2,6],[12],[1,3,5,13014],[1,6,8,13,15020],[9,21],[3,5,7,22],[6,22028],[5,10011,29034],[3,7,35],[3,7,35036]],[.tmp 6],false⟩:=gK
theorem tf_125:gQ ⟨170,56,[],[],[[2],[6012],[0,13],[2,13],[14016],[2,18019,55],[17,20029],[30045],[4005,46054],[0,3,55],[0,3]],[.tmp 2],false⟩:=gK
theorem tf_127:gQ ⟨171,21,[],[],[[0,2],[1,3020]],[.tmp 2],false⟩:=gK
theorem tf_148:gQ ⟨172,58,[],[],[[0],[4006],[7008],[9012],[9,13024],[25028],[25,29040],[41044],[45047],[41,48049],[50053],[1,54056],[1,3,50,57]],[.cell true 8 2],false⟩:=gK
theorem tf_149:gQ ⟨173,18,[],[],[[2],[3004,6011],[0,5,12017]],[.tmp 2],false⟩:=gK
theorem tf_132:gQ ⟨174,85,[(31,0),(44,0),(50,1),(69,1),(81,0)],[(17,[[(4,17),(5,2)]])],[[3004],[10011],[0,12013],[3004,12,14017],[],[18020],[21024],[25027],[25,28033],[34],[0,5008,35037],[3004,6007,35,38047],[8,48],[0,6,49050],[51066],[67069],[67,70073],[5,9,74079],[3005,74,80081],[9,82083],[9,82,84]],[.cell true 4 2,.tmp 3,.tmp 4],false⟩:=gK
theorem tf_140:gQ ⟨175,30,[],[],[[1000001,5],[10011],[6,12],[2003,13014],[5,13,15016],[7,17],[2003,18019],[2003,5,18,20025],[9,26],[8,27028],[8,27,29]],[.cell true 2 4,.tmp 5],false⟩:=gK
theorem tf_50:gQ ⟨185,6,[],[],[[0],[1,4005]],[.cell true 4 3],false⟩:=gK
theorem tf_51:gQ ⟨186,15,[],[],[[],[1000002,6013],[5,14]],[.cell true 4 4],false⟩:=gK
theorem tf_9:gQ ⟨187,26,[(17,1)],[],[[2],[0,3025]],[.tmp 2],false⟩:=gK
theorem tf_2:gQ ⟨188,22,[(8,0),(20,0)],[],[[2],[0,3021]],[.tmp 2],false⟩:=gK
theorem tf_3:gQ ⟨189,15,[(6,0),(12,0),(13,0)],[],[[4],[1000001,5014]],[.tmp 4],false⟩:=gK
theorem tf_10:gQ ⟨190,7,[],[],[[2],[0,3006]],[.tmp 2],false⟩:=gK
theorem tf_4:gQ ⟨191,26,[],[],[[2],[0,3025]],[.tmp 2],false⟩:=gK
theorem tf_5:gQ ⟨192,22,[],[],[[4],[1000001,5021]],[.tmp 4],false⟩:=gK
theorem tf_12:gQ ⟨193,16,[(14,1)],[],[[2],[0,3015]],[.tmp 2],false⟩:=gK
theorem tf_15:gQ ⟨194,23,[],[],[[2],[4009],[0,10021],[3,22]],[.tmp 2],false⟩:=gK
theorem tf_8:gQ ⟨195,7,[],[],[[0,4],[1,5006]],[.tmp 4],false⟩:=gK
theorem tf_14:gQ ⟨196,14,[],[],[[2],[0,3013]],[.tmp 2],false⟩:=gK
theorem tf_18:gQ ⟨197,30,[],[],[[2],[4009],[0,10028],[3,29]],[.tmp 2],false⟩:=gK
theorem tf_19:gQ ⟨198,21,[],[],[[4],[6007],[1000001,8019],[5,20]],[.tmp 4],false⟩:=gK
theorem tf_13:gQ ⟨199,70,[(41,1),(54,1)],[],[[2],[3028],[0,29],[0,29069]],[.tmp 2],false⟩:=gK
theorem tf_16:gQ ⟨200,51,[],[],[[2],[4026],[0,3,27050]],[.tmp 2],false⟩:=gK
theorem tf_17:gQ ⟨201,37,[],[],[[4],[6018],[1000001,5,19036]],[.tmp 4],false⟩:=gK
theorem tf_11:gQ ⟨202,23,[],[],[[2],[0,3022]],[.tmp 2],false⟩:=gK
theorem tf_7:gQ ⟨203,27,[],[],[[2],[4009],[0,10025],[3,26]],[.tmp 2],false⟩:=gK
theorem tf_129:gQ ⟨226,9,[],[],[[2],[0,3008]],[.tmp 2],false⟩:=gK
theorem tf_135:gQ ⟨227,154,[],[],[[5],[8009],[10],[11013],[15023],[24034],[35036],[0,6007,37038],[5,37,39040],[1000001,14,41],[6007,42043],[5,14,44046],[7,47048],[1000001,49055],[6007,56057],[5,47,58060],[62070],[71073],[61,74],[1000001,75079],[80082],[6007,83084],[6007,83,85086],[5,7,61,87114],[0,115121],[1,6,122124],[0,5,115,125130],[131148],[1,6,149152],[1,6,149,153]],[.cell true 4 4,.tmp 5],false⟩:=gK
theorem tf_31:gQ ⟨228,84,[(8,1),(80,1)],[(5,[[(1,5),(9,5),(6,1000)]])],[[],[7008],[9054],[55066],[67073],[6,74082],[1000001,5,83]],[.cell true 4 4],false⟩:=gK
theorem tf_32:gQ ⟨229,40,[],[],[[],[3006],[7014],[15023],[0,24038],[0,7,24,39]],[.cell true 4 2],false⟩:=gK
theorem tf_142:gQ ⟨231,100,[],[],[[1000001,5],[11],[14],[2003,12013,15],[13,17],[2003,12,16,18],[16,20],[2,12,19,21027],[7,28],[3,6,29030],[3,6,29,31036],[19,38],[2003,12,37,39044],[8,45047],[12,37,49],[2003,48,50054],[5,48,55060],[3,61066],[2,67],[70],[9010,68069,71077],[69,79],[80],[81],[82],[83],[68,84],[9010,68,78,85092],[9010,68,78,93099]],[.cell true 2 4,.tmp 5],false⟩:=gK
theorem tf_6:gQ ⟨239,25,[],[],[[6],[0,7,9017],[1002,8,18024]],[.tmp 6],false⟩:=gK
theorem tf_46:gQ ⟨241,22,[(14,0),(18,0)],[],[[2],[],[0],[],[9011],[12015],[5,16019],[20],[3,6008,21]],[.tmp 2],true⟩:=gK
theorem tf_151:gQ ⟨242,36,[(24,0)],[],[[2],[],[],[],[12014],[5,15018],[19],[20021,2009999],[20,22],[3,9011,23024],[0],[],[28030],[8,31033],[34],[6,25027,35]],[.tmp 2],false⟩:=gK
theorem tf_152:gQ ⟨243,36,[(24,0)],[],[[2],[],[],[],[12014],[5,15018],[19],[20021,2009999],[20,22],[3,9011,23024],[0],[],[28030],[8,31033],[34],[6,25027,35]],[.tmp 2],false⟩:=gK
theorem tf_134:gQ ⟨263,9,[],[],[[2],[0,3008]],[.tmp 2],false⟩:=gK
theorem tf_138:gQ ⟨264,56,[],[],[[4005],[],[1,8009],[10012],[14015],[13,16018],[0,19022],[6007,23],[6007,23026],[4005,19,27029],[30032],[33047],[0,6007,48],[4005,30,48055],[0,6007]],[.tmp 4,.tmp 5],false⟩:=gK
theorem tf_139:gQ ⟨265,21,[],[],[[2],[0,3020]],[.tmp 2],false⟩:=gK
theorem tf_34:gQ ⟨267,119,[(23,1),(67,1),(84,1),(99,1),(113,1),(115,1),(118,1)],[],[[],[5020],[0,21023],[21,24033],[34040],[0,41048],[3,49055],[41,56057],[58065],[66072],[73080],[0,3,81084],[0,3,73,85087],[58,88089],[3,90097],[0,98101],[3,90,102103],[104111],[112113],[0,114115],[4,116],[0,104,117118]],[.cell true 4 2],false⟩:=gK
theorem tf_143:gQ ⟨269,27,[],[],[[1000001,4],[2003,7012],[6,13023],[5,24],[5,24026]],[.tmp 4],false⟩:=gK
theorem tf_141:gQ ⟨270,106,[],[],[[1000001,5],[12013],[14017],[2003,18019],[5,18,20025],[26031],[2003,32037],[6008,38050],[5,14,51053],[54062],[2003,9,63064],[5,63],[65067],[5,69070,95],[68,71077],[11,78094],[2003,9010,95096],[2003,9010,97],[100],[101],[102],[98,103],[98099,104],[98099,105]],[.cell true 2 4,.tmp 5],false⟩:=gK
theorem tf_33:gQ ⟨297,44,[],[],[[4],[1000001,5043]],[.tmp 4],false⟩:=gK
theorem tf_30:gQ ⟨299,36,[(11,0),(25,1),(29,1),(30,0),(34,1)],[(7,[[(1,5),(7,5),(3,1000)]])],[[],[7008],[],[9018],[20021],[19,22],[23025],[23,26032],[1000001,6,33034],[5,35]],[.cell true 4 4],false⟩:=gK
theorem tf_35:gQ ⟨300,22,[(11,1),(14,1)],[],[[4007],[1,8011],[0,12014],[0,12,15021]],[],false⟩:=gK
theorem tf_144:gQ ⟨302,18,[],[],[[2],[0],[5],[6],[3004],[4,8],[9],[10],[3,7],[7,12],[3,11],[11,14],[3,13],[13,16],[3,17],[3,15],[3,15]],[.tmp 2],false⟩:=gK
noncomputable def funcs:Nat→Option SFunc
 |_=>none
end Go.Sh.Cd7
end

section
namespace Go.Proofs.YtcpaleaajdilgaaGreatDoor
open Go Go.RowKit Go.Mor Go.Sh Go.Sh.Cd1
section
open Go.Sh.Cd7
def ndT(d:Nd):TV:=.agg [B d.f,B d.n,B d.m,B d.t,B d.x,B d.o]
def chT(h:Chg):TV:=.agg [I h.k,S (str h.f),S (str h.n),S (str h.m),I h.t.k,I h.t.o,S (str h.x),S (str h.o)]
structure TxOk(m:Nat)(s:zB):Prop where
 len:s.length<4611686018427387904
 rd:s≠[]→zC (glE m) 36 [S (str s)] [] (zbT (rdV s)) []
 sm:s≠[]→ESmall (rdV s).1
structure ChOk(q:Nat)(h:Chg):Prop where
 f:z0t h.f
 n:z0t h.n
 m:z0t h.m
 x:TxOk q h.x
 o:TxOk q h.o
theorem zlR(g:Sh.Glob)(k:Int):zC g 120 [I k] [] (.tuple [ndT (z0H k),B (z0H k).ok]) []:=by
 refine za tf_48 ?_;have hk:k=1∨k=2∨k=6∨k=3∨k=4∨k=5∨(¬k=1∧¬k=2∧¬k=6∧¬k=3∧¬k=4∧¬k=5):=by omega
 unfold ndT B;rcases hk with rfl|rfl|rfl|rfl|rfl|rfl|⟨h1,h2,h6,h3,h4,h5⟩
 all_goals unfold z0H
 ·simp only[vW,seval]
 ·simp only[vW,seval]
 ·simp only[vW,seval]
 ·simp only[vW,seval]
 ·simp only[vW,seval]
 ·simp only[vW,seval]
 ·simp only[vW,seval,h1,h2,h6,h3,h4,h5]
theorem zik(s:zB):zn ⟨s,[]⟩=zb s:=by simp[zn,z2U]
theorem z88(g:Sh.Glob)(s:zB)(b:Bool)(hs:z0t s):zC g 121 [S (str s),B b] [] (B (z1A s b)) []:=by
 have HR:=z28 g ⟨s,[]⟩ ⟨hs,by simp,by simp⟩;rw[zik]at HR;have HR:=HR.inp (xs:=[.agg [S (str s),zK]]) rfl (fun j c d hc hd=>by
  cases j with
  |zero=>
   simp at hc hd;subst hc;subst hd;exact zfi rfl (fun j p q hp hq=>by
    match j with
    |0=>simp at hp hq;subst hp;subst hq;exact .refl _
    |1=>simp at hp hq;subst hp;subst hq;exact z56 4
    |j+2=>simp at hp)
  |succ j=>simp at hc)
 have e0:=bS [];refine za tf_47 ?_;unfold z1A B zK at*;cases b
 ·simp only[vW,seval,e0]
 ·simp only[vW,seval];exact zd HR
theorem zb7(m:Nat)(s:zB)(b:Bool)(hs:TxOk m s):zC (glE m) 122 [S (str s),B b] [] (B (z2F s b)) []:=by
 have e0:=bS [];refine za tf_45 ?_;unfold z2F B;by_cases h:s=[]
 ·subst h;simp only[vW,seval,e0]
 ·have hb:(s==[])=false:=by simpa using h
  have HP:=hs.rd h;generalize rdV s=r at*;unfold zbT at HP;cases b
  ·simp only[vW,seval,e0,hb]
  ·by_cases h0:r.2.2=0
   ·rw[if_pos h0]at HP;simp only[vW,seval,e0,hb];refine z7 HP ?_;simp only[vW,seval,h0]
   ·rw[if_neg h0]at HP;unfold zk at HP;simp only[vW,seval,e0,hb];refine z7 HP ?_;simp only[vW,seval,h0]
theorem z3N(m:Nat)(h:Chg)(hh:ChOk m h):zC (glE m) 63 [chT h] [] (B (zS h)) []:=by
 have HN:=zlR (glE m) h.k;have H1:=fun b=>z88 (glE m) h.f b hh.f;have H2:=fun b=>z88 (glE m) h.n b hh.n;have H3:=fun b=>z88 (glE m) h.m b hh.m;have HT:=z7V (glE m) h.t;have H4:=fun b=>zb7 m h.x b hh.x;have H5:=fun b=>zb7 m h.o b hh.o;have hz:zg ty0=false:=by decide
 refine za tf_52 ?_;unfold zS;generalize z0H h.k=d at*;obtain⟨df,dn,dm,dt,dx,dO,dk⟩:=d;simp only[]at*;unfold ndT chT tyT B at*;simp only[vW,seval];refine z7 HN ?_;cases dk
 ·simp only[vW,seval]
 simp only[vW,seval];refine z7 (H1 df) ?_;cases z1A h.f df
 ·simp only[vW,seval]
 simp only[vW,seval];refine z7 (H2 dn) ?_;cases z1A h.n dn
 ·simp only[vW,seval]
 simp only[vW,seval];refine z7 (H3 dm) ?_;cases z1A h.m dm
 ·simp only[vW,seval]
 simp only[vW,seval];refine z7 HT ?_;have tyE:(⟨h.t.k,h.t.o⟩:Ty)=h.t:=rfl;cases dt
 ·rw[if_neg (by simp)];by_cases hq:z0h h.t ty0=true
  ·have hr:zg h.t=false:=by
    unfold z0h ty0 at hq;simp only[Bool.and_eq_true,beq_iff_eq]at hq;unfold zg;simp[hq.1,hq.2]
   have hq':z0h h.t ⟨0,0⟩=true:=hq;rw[hr,hq];simp only[vW,seval,zaJ,bNV,z7q,tyE,hq'];refine z7 (H4 dx) ?_;cases z2F h.x dx
   ·simp only[vW,seval]
   simp only[vW,seval];exact zd (H5 dO)
  ·have hq:z0h h.t ty0=false:=by simpa using hq
   have hq':z0h h.t ⟨0,0⟩=false:=hq;rw[hq];cases hr:zg h.t
   ·simp only[vW,seval,zaJ,bNV,z7q,tyE,hq']
   ·simp only[vW,seval,zaJ,bNV,z7q,tyE,hq']
 ·rw[if_pos rfl];cases hr:zg h.t
  ·simp only[vW,seval,zaJ,bNV,z7q]
  ·simp only[vW,seval,zaJ,bNV,z7q];refine z7 (H4 dx) ?_;cases z2F h.x dx
   ·simp only[vW,seval]
   simp only[vW,seval];exact zd (H5 dO)
end
theorem zoD(g:Sh.Glob)(t:Ty):zC g 35 [tyT t] [] (nv (z5t t)) []:=by
 refine za tf_162 ?_;have HR:=z8Q g t;unfold B at HR;obtain⟨k,o⟩:=t;generalize hr:zg ⟨k,o⟩=r at HR;have key:z5t ⟨k,o⟩=if !r||k==3||k==4 then V.nil else .mk k 0 [] []:=by rw[←hr];rfl
 rw[key];simp only[vW,seval];refine z7 HR ?_;cases r
 ·simp only[vW,seval];rfl
 ·simp only[vW,seval]
  repeat' (first|(apply And.intro)|(intro _))
  all_goals(first|(simp_all [V.nil,V.k,V.n,V.s,e0];done)|rfl)
section
open Go.Sh.Cd7
def tlT(c:Cls)(t:Ty):Tl→PV
 | .no=> .v .nilFunc
 | .zero=> .fn (.func 185) [] [.el [.v (.int .i64 t.k),.v (.int .i64 t.o)]]
 | .ev e=> .fn (.func 186) [] [.el [.v (.int .i64 e.k),.v (.int .i64 e.n),.v (.string (str e.s)),.sl 4 (V.rows e.l)],.el [.v (.string (str c.n)),.sl 4 (flR c.fs)]]
theorem zoC(t:Ty):(z5t t).l=[]:=by unfold z5t;split<;>rfl
theorem zis(g:Sh.Glob)(t:Ty)(vals:List V):zC g 185 [.pv (.sl 4 (V.rows vals)),.pv (.el [.v (.int .i64 t.k),.v (.int .i64 t.o)])] [] (tv (z5t t)) []:=by
 have HZ:=zoD g t;refine SCalls.out ?_ (z3s (zoC t));refine z0s tf_50 ?_;exact zd HZ
theorem zit(m:Nat)(c:Cls)(e:V)(vals:List V)(hc:ClsOk c)(he:ESmall e)(hf:∀x∈vals,VFew x∧VOk x)(hl:vals.length≤4611686018427387904):
  zC (glE m) 186 [.pv (.sl 4 (V.rows vals)),.pv (.el [.v (.int .i64 e.k),.v (.int .i64 e.n),.v (.string (str e.s)),.sl 4 (V.rows e.l)]),.pv (.el [.v (.string (str c.n)),.sl 4 (flR c.fs)])] [] (tv (z4c c vals e).1) []:=by
 have HE:=zjc m c e vals hc he hf hl;have hn:(z4c c vals e).2≠0→(z4c c vals e).1=V.nil:=by
  unfold z4c;split
  ·intro _;rfl
  ·split
   ·intro _;rfl
   ·intro h;exact absurd rfl h
 unfold zhn at HE;generalize z4c c vals e=r at*;by_cases h:r.2=0
 ·rw[if_pos h]at HE;refine za tf_51 ?_;unfold clT at HE;simp only[vW,seval];exact zd HE
 ·rw[if_neg h]at HE;rw[hn h];refine SCalls.out ?_ (z3s (x:=V.nil) rfl);refine za tf_51 ?_;unfold clT at HE;simp only[vW,seval];exact zd HE
theorem zfT(g:Sh.Glob)(c:Cls)(t:Ty):zC g 126 [clT c,S (str []),tyT t] [] (.pv (tlT c t .zero)) []:=by
 have h:zC g 126 [clT c,S (str []),tyT t] [] (.fn (.func 185) [] (z3d 1000 1)) ([[PV.v (.int .i64 t.k),.v (.int .i64 t.o)]].map fun ps=> .box (ps.map .pv)):=by
  refine zp tf_49 ?_;unfold clT;simp only[vW,seval,zr1];rfl
 exact SCalls.frz (pss:=[_]) h
theorem zkv(m:Nat)(c:Cls)(s:zB)(t:Ty)(hs:TxOk m s)(hc:ClsOk c)(hne:s≠[]):zC (glE m) 126 [clT c,S (str s),tyT t] [] (.pv (tlT c t (zz c s t))) []:=by
 have HP:=hs.rd hne;have HT:=zco m c (rdV s).1 hc (hs.sm hne);have e0:=bS [];have hb:(s==[])=false:=by simpa using hne
 unfold zz;rw[if_neg hne];generalize rdV s=r at*;unfold zbT at HP;unfold zdz at HT;generalize z2q c r.1=q at*;obtain⟨⟨qk,qo⟩,q2⟩:=q;obtain⟨tk,ot⟩:=t;simp only[]at*;by_cases h0:r.2.2=0
 ·rw[if_neg (c:=r.2.2≠0) (by simpa using h0)];rw[if_pos h0]at HP;by_cases h1:q2=0
  ·cases h2:z0h ⟨qk,qo⟩ ⟨tk,ot⟩
   ·rw[if_neg (by simp)];refine za tf_49 ?_;unfold clT tlT at*;simp only[vW,seval,e0,hb];refine z7 HP ?_;simp only[vW,seval,h0];refine z7 HT ?_;simp only[vW,seval,h1,z7q,h2]
   ·rw[if_pos ⟨h1,rfl⟩];have h:zC (glE m) 126 [clT c,S (str s),tyT ⟨tk,ot⟩] [] (.fn (.func 186) [] (z3d 1000 2)) ([[PV.v (.int .i64 r.1.k),.v (.int .i64 r.1.n),.v (.string (str r.1.s)),.sl 4 (V.rows r.1.l)],[.v (.string (str c.n)),.sl 4 (flR c.fs)]].map fun ps=> .box (ps.map .pv)):=by
     refine zp tf_49 ?_;unfold clT at*;simp only[vW,seval,e0,hb];refine z7 HP ?_;simp only[vW,seval,h0];refine z7 HT ?_;simp only[vW,seval,h1,z7q,h2];rfl
    exact SCalls.frz (pss:=[_,_]) h
  ·rw[if_neg (fun h=>h1 h.1)];refine za tf_49 ?_;unfold clT tlT at*;simp only[vW,seval,e0,hb];refine z7 HP ?_;simp only[vW,seval,h0];refine z7 HT ?_;simp only[vW,seval,h1]
 ·rw[if_pos (c:=r.2.2≠0) h0];rw[if_neg h0]at HP;refine za tf_49 ?_;unfold clT tlT zk at*;simp only[vW,seval,e0,hb];refine z7 HP ?_;simp only[vW,seval,h0]
theorem zcS(m:Nat)(c:Cls)(s:zB)(t:Ty)(hs:TxOk m s)(hc:ClsOk c):zC (glE m) 126 [clT c,S (str s),tyT t] [] (.pv (tlT c t (zz c s t))) []:=by
 by_cases h:s=[]
 ·subst h;have:zz c [] t=.zero:=by unfold zz;rw[if_pos rfl]
  rw[this];exact zfT (glE m) c t
 ·exact zkv m c s t hs hc h
end
end Go.Proofs.YtcpaleaajdilgaaGreatDoor
end

section
namespace Go.Sh
open Go Go.RowKit
section
variable{B:Base}{s:FS}{a:Act}{w:World}{E:Env}
theorem z7h{W:Nat}:∀{es:List (List PV)},(∀cs∈es,cs.length=W)→∀{i j:Nat} {cs:List PV} {c:PV},es[i]?=some cs→cs[j]?=some c→es.flatten[i*W+j]?=some c
 |[],_,i,j,cs,c,h,_=>by simp at h
 |x::es,hW,i,j,cs,c,h,hc=>by
  cases i with
  |zero=>
   grind
  |succ i=>
   have:=z7h (es:=es) (fun y hy=>hW y (List.mem_cons_of_mem _ hy)) (i:=i) (by grind) hc
   grind
theorem Sim.freezeS(h:Sim B s a w E){d W:Nat}{es:List (List PV)}(hd:s.b d=some (es.flatten.map TV.pv))(hW:∀cs∈es,cs.length=W):
  ∃K',Sim B { s with b:=fun e=>if e=d then none else s.b e } a w { E with K:=K' }∧∀c v,RelT w { E with K:=K' } s.r (.bs d 0 es.length c) v→RelT w { E with K:=K' } s.r (.pv (.sl W es)) v:=by
 obtain⟨K',h1,h2,_⟩:=h.freeze0 hd;refine⟨K',h1,fun c v hv=> ?_⟩;cases hv with
 |bs _ _ _ _ C hn hc hm=>
 cases h2 with
 |pv h2=>
 cases h2 with
 |el _ _ _ f hf hs=>
 refine .pv (.sl W es (E.β d) 0 C (some ⟨E.β d,0,none⟩) (fun i j=>f (i*W+j)) (fun _=>rfl) (by omega) hm hW (fun i j cs c e1 e2=> ?_) (fun i j cs c e1 e2=>hs _ _ (z7h hW e1 e2)))
 grind [z7h]
theorem zjl(s:ES)(d:Nat):(fun e=>if e=d then none else s.fs.b e)=lk (drp [d] s.b):=by
 funext e;rw[z4h];show(if e=d then none else lk s.b e)=_
 grind [has,Nat.beq_refl,only,z3Y]
theorem z8f{s:ES}{k d W c:Nat}{es:List (List PV)}(hd:lk s.b d=some (es.flatten.map TV.pv))(hW:∀cs∈es,cs.length=W)(hk:lk s.t k=some (.bs d 0 es.length c)):(⟨sv s.t k (.pv (.sl W es)),drp [d] s.b,s.r,s.i⟩:ES).Lw s:=by
 intro B a w E _ _ hS;obtain⟨K',h1,h2⟩:=hS.freezeS hd hW;refine⟨{ E with K:=K' },?_⟩;have:=h1.reT (k:=k) (x:=.bs d 0 es.length c) (y:=.pv (.sl W es)) hk (h2 c)
 grind [sv,drp,FS.setT,zjl,only,ES.fs,z2c]
end
section
theorem zpe{s:ES}{k d:Nat}{ps:List PV}(hd:lk s.b d=some (ps.map TV.pv))(hk:lk s.t k=some (.ptr d 0)):(⟨sv s.t k (.pv (.el ps)),drp [d] s.b,s.r,s.i⟩:ES).Lw s:=by
 intro B a w E _ _ hS;obtain⟨K',h1,h2,_⟩:=hS.freeze0 hd;refine⟨{ E with K:=K' },?_⟩;have:=h1.reT (k:=k) (x:=.ptr d 0) (y:=.pv (.el ps)) hk (fun v hv=>by cases hv;exact h2)
 grind [sv,drp,FS.setT,zjl,only,ES.fs,z2c]
section
variable{P:Program}{g:Glob}{N:Nat}{a b c:SCode}{Q Q':SExit→ES→Prop}{s s0:ES}
@[congr] theorem sem_congr (h:s=s0):z3P P g N c Q s=z3P P g N c Q s0:=by rw[h]
theorem zeV(h:z3P P g N c Q s)(hq:∀e s,Q e s→Q' e s):z3P P g N c Q' s:=fun H Fp K code ht B a w E h1 h2 h3 h4 h5 h6=>wp_mono (h H Fp K code ht B a w E h1 h2 h3 h4 h5 h6) (by
 rintro x a' w' ⟨e,s',E',q1,q2,q3⟩;exact⟨e,s',E',q1,hq _ _ q2,q3⟩)
theorem z6X(hl:s0.Lw s)(h:z3P P g N c Q s0):z3P P g N c Q s:=by
 intro H Fp K code ht B a w E h1 h2 h3 h4 h5 h6;obtain⟨E',h7⟩:=hl B a w E h2 h3 h6;exact h H Fp K code ht B a w E' h1 h2 h3 h4 h5 h7
theorem zok(h:z3P P g N a (z2P (z3P P g N b Q) Q) s):z3P P g N (.seq a b) Q s:=by
 intro H Fp K code ht B ac w E h1 h2 h3 h4 h5 h6;cases code with
 |seq x y=>
  simp only[ze]at ht;split at ht<;>try(cases ht;done)
  rename_i a' b' ha hb;cases ht;refine wp_seq (wp_mono (h H Fp K x ha B ac w E h1 h2 h3 h4 h5 h6) ?_);rintro z a2 w2 ⟨e,s2,E2,rfl,hq,hS2⟩;cases e with
  |normal=>exact hq H Fp K y hb B a2 w2 E2 h1 h2 h3 h4 h5 hS2
  |exit id=>exact⟨.exit id,s2,E2,rfl,hq,hS2⟩
  |ret=>exact⟨.ret,s2,E2,rfl,hq,hS2⟩
  |pan z=>exact⟨.pan z,s2,E2,rfl,hq,hS2⟩
 |skip|exit id|ret|rangeFunc _ _ _ _=>simp[ze]at ht
 |region id ops draw=>
  grind [only,ze]
 |cond x y z=>
  grind [only,ze]
 |block id x=>
  grind [only,ze,Option.map_eq_some_iff]
 |loop x=>
  grind [only,ze,Option.map_eq_some_iff]
 |_=>simp[ze]at ht
theorem z0R(zf:P.follows .mixedOrders=true)(h:swp P g a (z2P (z3P P g N b Q) Q) s):z3P P g N (.seq a b) Q s:=zok (z44 zf h)
end
theorem zl8{P:Program}{g:Glob}{f:Nat}{H:Nat→Option Nat→Nat}{Fp:Nat→List (Nat→Option Nat)}{K:Nat→List Nat}{keep:Bool}{F:SFunc}(zf:P.follows .mixedOrders=true)(hF:z0e P f H Fp K keep=some F){xs:List TV}{os os':List MO}{y:TV}(hn:Nat.ble xs.length F.N=true)(hos:Nat.ble os.length 1000=true)(hmo:moOk os os'=true)
  (h:z3P P g F.N F.code (PostR F.res F.keep os.length y os') (startE xs os)):SCalls P g f xs os y os':=
 z9K zf hF (Nat.le_of_ble_eq_true hn) (Nat.le_of_ble_eq_true hos) hmo (zeV h fun e s he=>by
  cases e with
  |normal=>exact⟨.inr rfl,by rw[z99];exact he⟩
  |ret=>exact⟨.inl rfl,by rw[z99];exact he⟩
  |exit id=>exact he.elim
  |pan z=>exact he.elim)
theorem z4U{P:Program}{g:Glob}{f:Nat}{H:Nat→Option Nat→Nat}{Fp:Nat→List (Nat→Option Nat)}{K:Nat→List Nat}{keep:Bool}{F:SFunc}(zf:P.follows .mixedOrders=true)(hF:z0e P f H Fp K keep=some F){xs:List TV}{y:TV}(hn:Nat.ble xs.length F.N=true)
  (h:z3P P g F.N F.code (Post0 F.res y) (startE xs [])):SCalls P g f xs [] y []:=by
 have key:∀s,ansW y (resT s.fs F.res)→exitR F.res F.keep 0 s=some (y,[]):=by
  intro s he;cases hr:resT s.fs F.res with
  |none=>rw[hr]at he;exact he.elim
  |some y0=>
   rw[hr]at he;obtain⟨h1,h2⟩:=he;simp[exitR,exitF,hr,idsFrom,h1,zx,h2,seqO]
 refine zl8 zf hF hn rfl rfl (zeV h fun e s he=> ?_);cases e with
 |normal=>exact key s he
 |ret=>exact key s he
 |exit id=>exact he.elim
 |pan z=>exact he.elim
end
end Go.Sh
end
