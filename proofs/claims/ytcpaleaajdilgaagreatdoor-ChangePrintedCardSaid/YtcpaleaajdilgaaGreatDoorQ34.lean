/- Merged texts: Zn4. No statement of the program is proved here. -/
import Derived.Test.YtcpaleaajdilgaaGreatDoorQ33
set_option linter.unusedSimpArgs false
set_option linter.unusedVariables false
set_option maxRecDepth 100000
set_option maxHeartbeats 8000000
section
namespace Go.Proofs.YtcpaleaajdilgaaGreatDoor
open Go Go.RowKit Go.Mor Go.Sh Go.Sh.Cd1 Go.Sh.Cd7
def rd7:Rd Chg:=
 Rd.bind z0j fun k=>Rd.bind z00 fun f=>Rd.bind z00 fun n=>Rd.bind z00 fun m=>Rd.bind z0j fun t=>Rd.bind z0j fun o=>Rd.bind z00 fun x=>Rd.bind z00 fun y=>Rd.ret ⟨k,f,n,m,⟨t,o⟩,x,y⟩
theorem zp3{h:Chg}(hf:ChFit h):Enc rd7 (z1D h) h:=by
 have e:z1D h=num h.k++(text h.f++(text h.n++(text h.m++(num h.t.k++(num h.t.o++(text h.x++(text h.o++[]))))))):=by unfold z1D;simp
 rw[e];refine(z98 _ hf.k.1 hf.k.2).bind ((z5F _ hf.f).bind ((z5F _ hf.n).bind ((z5F _ hf.m).bind ((z98 _ hf.tk.1 hf.tk.2).bind ((z98 _ hf.ot.1 hf.ot.2).bind ((z5F _ hf.x).bind ((z5F _ hf.o).bind ?_)))))));exact Enc.ret _
theorem zqh:Cuts rd7:=
 zac.bind fun _=>z4X.bind fun _=>z4X.bind fun _=>z4X.bind fun _=>zac.bind fun _=>zac.bind fun _=>z4X.bind fun _=>z4X.bind fun _=>Cuts.ret _
theorem z6b(l:zB)(a:Int):nuS l (a,true)=(0,(a,true)):=rfl
theorem z6m(l:zB)(a:Int):txS l (a,true)=([],(a,true)):=rfl
theorem zhM{l:zB}{a:Int}(h:z0j l a=none):nuS l (a,false)=(0,(a,true)):=by unfold nuS;simp[h]
theorem zbx{l:zB}{a:Int}(h:z00 l a=none):txS l (a,false)=([],(a,true)):=by unfold txS;simp[h]
theorem zhN{l:zB}{a n b:Int}(h:z0j l a=some (n,b)):nuS l (a,false)=(n,(b,false)):=by unfold nuS;simp[h]
theorem zby{l t:zB}{a b:Int}(h:z00 l a=some (t,b)):txS l (a,false)=(t,(b,false)):=by unfold txS;simp[h]
theorem zgi(l:zB)(a:Int):match rd7 l a with|some (h,b)=>z5a l a=(h,(b,false))|none=>(z5a l a).2.2=true:=by
 unfold rd7 Rd.bind Rd.ret z5a;rcases h1:z0j l a with _|⟨k,b1⟩
 ·simp only[zhM h1,z6b,z6m]
 simp only[zhN h1];rcases h2:z00 l b1 with _|⟨f,b2⟩
 ·simp only[zbx h2,z6b,z6m]
 simp only[zby h2];rcases h3:z00 l b2 with _|⟨n,b3⟩
 ·simp only[zbx h3,z6b,z6m]
 simp only[zby h3];rcases h4:z00 l b3 with _|⟨m,b4⟩
 ·simp only[zbx h4,z6b,z6m]
 simp only[zby h4];rcases h5:z0j l b4 with _|⟨t,b5⟩
 ·simp only[zhM h5,z6b,z6m]
 simp only[zhN h5];rcases h6:z0j l b5 with _|⟨o,b6⟩
 ·simp only[zhM h6,z6b,z6m]
 simp only[zhN h6];rcases h7:z00 l b6 with _|⟨x,b7⟩
 ·simp only[zbx h7,z6b,z6m]
 simp only[zby h7];rcases h8:z00 l b7 with _|⟨y,b8⟩
 ·simp only[zbx h8,z6b,z6m]
 simp only[zby h8]
theorem zlj{h:Chg}(hf:ChFit h)(pre post:zB):z5a (pre++z1D h++post) pre.length=(h,(((pre.length+(z1D h).length:Nat):Int),false)):=by
 have:=zgi (pre++z1D h++post) pre.length;rw[zp3 hf pre post]at this;exact this
theorem zli{h:Chg}(hf:ChFit h)(k:Nat)(hk:k<(z1D h).length):(z5a ((z1D h).take k) 0).2.2=true:=by
 have:=zgi ((z1D h).take k) 0;rw[(zp3 hf).cut zqh k hk]at this;exact this
theorem zdG(a0 a1:Addr)(m:Nat)(h:Chg)(hh:ChOk m h)(hf:ChFit h)(hw:zS h=true)(pre post:zB)(hl:(pre++z1D h++post).length<1125899906842624):
  zC (glX a0 a1 m) 29 [S (str (pre++z1D h++post)),I (pre.length:Int)] [] (.tuple [chT h,I ((pre.length+(z1D h).length:Nat):Int),I 0]) []:=by
 have H:=zaZ a0 a1 m (pre++z1D h++post) (pre.length:Int) hl ⟨by omega,by simp only[List.length_append]at hl;omega⟩;unfold zdh at H;rw[zlj hf pre post]at H;have H:=H (fun _=>hh);simpa only[hw,Bool.not_true,Bool.or_self,cond_false]using H
theorem znu(a0 a1:Addr)(m:Nat)(h:Chg)(hf:ChFit h)(k:Nat)(hk:k<(z1D h).length)(hl:(z1D h).length<1125899906842624):
  zC (glX a0 a1 m) 29 [S (str ((z1D h).take k)),I 0] [] (.tuple [chT zhc,I 0,I 10]) []:=by
 have hc:=zli hf k hk;have H:=zaZ a0 a1 m ((z1D h).take k) 0 (by rw[List.length_take];omega) ⟨by omega,by omega⟩ (fun h0=>by rw[hc]at h0;cases h0);unfold zdh at H;simpa only[hc,Bool.true_or,cond_true]using H
theorem zdX{h:Chg}(hf:ChFit h):0<(z1D h).length∧(z1D h).length≤60000:=by
 unfold z1D;have l1:=z2d h.k;have l2:=z2d h.t.k;have l3:=z2d h.t.o;have m1:=z2Y hf.f;have m2:=z2Y hf.n;have m3:=z2Y hf.m;have m4:=z2Y hf.x;have m5:=z2Y hf.o;have p:=z7U (by simpa using z98 _ hf.k.1 hf.k.2 [] []);simp only[List.length_append];omega
theorem z4M(m:Nat){s:zB}{r:V×Int×Int}(h:z1W 1000 s=some r)(hl:s.length<4611686018427387904):TxOk m s:=by
 have e:rdV s=r:=by unfold rdV;rw[h];rfl
 refine⟨hl,fun _=> ?_,fun _=> ?_⟩
 ·rw[e];exact zdx (zk0 m s h)
 ·rw[e];unfold z1W at h;split at h
  ·cases h;exact z5u
  ·split at h
   ·cases h
   ·cases h;exact z5u
   ·rename_i L hL;split at h
    ·rename_i e p hp;split at h
     ·cases h;exact z5u
     ·split at h
      ·cases h;exact(z6A (z3r _ _ _ _ _ (by simp) hL).1 _ _).1 _ _ _ _ hp
      ·cases h;exact z5u
    ·cases h;exact z5u
    ·cases h
theorem zaE(m:Nat):TxOk m []:=⟨by simp,fun h=>absurd rfl h,fun h=>absurd rfl h⟩
end Go.Proofs.YtcpaleaajdilgaaGreatDoor
end
