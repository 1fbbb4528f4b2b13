/- Merged texts: Zn4. No statement of the program is proved here. -/
import Derived.Test.YthinnldeogflgaaGreatDoorQ29
set_option linter.unusedSimpArgs false
set_option linter.unusedVariables false
set_option maxRecDepth 100000
set_option maxHeartbeats 8000000
section
namespace Go.Proofs.YthinnldeogflgaaGreatDoor
open Go Go.RowKit Go.Mor Go.Sh Go.Sh.Cd1 Go.Sh.Cd7
theorem zkT(m:Nat){s:zB}{r:V×Int×Int}(h:z2O 1000 s=some r)(hl:s.length<4611686018427387904):TxOk m s:=by
 have e:rdV s=r:=by unfold rdV;rw[h];rfl
 refine⟨hl,fun _=> ?_,fun _=> ?_⟩
 ·rw[e];exact z9E (zgW m s h)
 ·rw[e];unfold z2O at h;split at h
  ·cases h;exact z5G
  ·split at h
   ·cases h
   ·cases h;exact z5G
   ·rename_i L hL;split at h
    ·rename_i e p hp;split at h
     ·cases h;exact z5G
     ·split at h
      ·cases h;exact(z8a (z3r _ _ _ _ _ (by simp) hL).1 _ _).1 _ _ _ _ hp
      ·cases h;exact z5G
    ·cases h;exact z5G
    ·cases h
theorem z8O(m:Nat):TxOk m []:=⟨by simp,fun h=>absurd rfl h,fun h=>absurd rfl h⟩
end Go.Proofs.YthinnldeogflgaaGreatDoor
end
