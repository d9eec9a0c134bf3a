/- Which terms sessions make: no names, no other public keys than their own. What a world holds whatever happens: names, public keys, secrets, payloads. What a world holds, op by op. -/
import Derived.Test.YtcikdogkkgefcaaGreatDoorMA38
namespace Go.Proofs.YtcikdogkkgefcaaGreatDoor
set_option maxRecDepth 8000
set_option maxHeartbeats 16000000
set_option linter.unusedVariables false
set_option linter.unusedSimpArgs false
open Go Go.RowKit
def Ex (lim:Nat)(S:Int→Prop)(L L':List Nd):Prop:=(∃M,L'=L++M∧∀n∈M,n.k≠1∧(n.k=2→S n.a))∧(Good lim L→Good lim L')
section
variable {S:Int→Prop}{lim:Nat}{L L1 L2:List Nd}{s:Sy}{h:Sh}{ck x q e who t:Int}{c:Cph}
theorem Ex.refl (L:List Nd):Ex lim S L L:=⟨⟨[],by simp,by simp⟩,id⟩
theorem Ex.trans (a:Ex lim S L L1)(b:Ex lim S L1 L2):Ex lim S L L2:=by
 obtain⟨⟨M,rfl,h1⟩,g1⟩:=a;obtain⟨⟨N,rfl,h2⟩,g2⟩:=b;exact⟨⟨M++N,by simp,fun n hn=>by
  rcases List.mem_append.1 hn with h|h
  · exact h1 n h
  · exact h2 n h⟩,fun g=>g2 (g1 g)⟩
theorem zOu {n:Nd}(h1:n.k≠1)(h2:n.k=2→S n.a):Ex lim S L (mk lim L n).1:=by
 refine⟨?_,fun g=>zDd g n⟩;unfold mk;split
 · split
   · exact(Ex.refl (lim:=0) L).1
   · split
     · exact(Ex.refl (lim:=0) L).1
     · exact⟨[n],rfl,fun m hm=>by rw[List.mem_singleton]at hm;subst hm;exact⟨h1,h2⟩⟩
 · exact(Ex.refl (lim:=0) L).1
theorem ex_mk {n:Nd}(h1:n.k≠1∧n.k≠2):Ex lim S L (mk lim L n).1:=zOu h1.1 (fun h=>absurd h h1.2)
theorem zVr {x y:Int}:Ex lim S L (mk lim L (zIh x y)).1:=ex_mk ⟨by simp[zIh],by simp[zIh]⟩
theorem zOw {n x y:Int}:Ex lim S L (mk lim L (keyN n x y)).1:=ex_mk ⟨by simp[keyN],by simp[keyN]⟩
theorem zOt {x y:Int}:Ex lim S L (share lim L x y).1:=by
 unfold share;split
 · split
   · exact ex_mk ⟨by simp,by simp⟩
   · split<;>exact ex_mk ⟨by simp,by simp⟩
 · exact Ex.refl _
theorem zC3:Ex lim S L (zAW lim L s x).1:=by
 unfold zAW;split
 · exact zVr
 · exact Ex.refl _
theorem zGc:Ex lim S L (zAj lim L ck x).1:=by
 unfold zAj;split
 · split
   · exact zOw.trans zOw
   · exact zOw
 · exact Ex.refl _
theorem zOv:Ex lim S L (zBb lim L ck x).1:=by
 unfold zBb;split
 · split
   · exact zGc.trans zOw
   · exact zGc
 · exact zGc
theorem zML:Ex lim S L (zBK lim L s x).1:=by unfold zBK;split<;>exact zGc
theorem zQJ:Ex lim S L (zBG lim L s x).1:=by
 unfold zBG;split
 · exact zOv.trans zC3
 · exact zOv
theorem zK3 {ad:Int}:Ex lim S L (zBE lim L c ad q).1:=by
 unfold zBE;repeat' split
 all_goals first|exact Ex.refl _|exact ex_mk ⟨by simp,by simp⟩
theorem zSS:Ex lim S L (zBm lim L c).1:=by
 unfold zBm;repeat' split
 all_goals first|exact Ex.refl _|exact ex_mk ⟨by simp,by simp⟩
theorem zSR {told:Int}:Ex lim S L (zDy lim L s c x told).1:=by unfold zDy;split<;>exact zC3
theorem zQF:Ex lim S L (zAy lim L s q).1:=by
 unfold zAy;split
 · exact zK3.trans zSR
 · exact zK3
theorem zQG:Ex lim S L (zBB lim L s x).1:=by
 unfold zBB;split
 · exact zSR
 · exact Ex.refl _
theorem zT3:Ex lim S L (zBx lim L s).1:=by unfold zBx;split<;>exact zGc
theorem zEu (h1:S h.s)(h2:S h.e):Ex lim S L (zAk lim L h who t).1:=by
 unfold zAk;split
 · exact Ex.refl _
 · refine zOu (by simp) (fun _=>?_)
   simp only;split
   · exact h2
   · exact h1
theorem zIq {eph:Bool}:Ex lim S L (zA3 lim L h x eph).1:=by
 unfold zA3;split
 · exact zC3
 · split
   · exact zC3.trans zML
   · exact zC3
theorem zSO (h1:S h.s)(h2:S h.e):Ex lim S L (zB9 lim L h who t).1:=by
 unfold zB9;split
 · exact zEu h1 h2
 · exact(zEu h1 h2).trans zIq
theorem zGb:Ex lim S L (zAR lim L h t).1:=by
 unfold zAR;repeat' split
 all_goals first|exact zQJ|exact zOt|exact zOt.trans zML
theorem zIo:Ex lim S L (zAU lim L h x).1:=by unfold zAU;split<;>exact zQF
theorem zIp:Ex lim S L (zAO lim L h x).1:=by unfold zAO;split<;>exact zQG
theorem zK2 (h1:S h.s)(h2:S h.e):Ex lim S L (zA9 lim L h t).1:=by
 unfold zA9;repeat' split
 all_goals first|exact Ex.refl _|exact zEu h1 h2|exact(zEu h1 h2).trans zIo|exact(zEu h1 h2).trans zIq
theorem zJ1 {part:Int}:Ex lim S L (zAe lim L h t part).1:=by
 unfold zAe;split
 · exact zIq
 · exact zIp
theorem zIE {eph:Bool}:(zA3 lim L h x eph).2.1.s=h.s∧(zA3 lim L h x eph).2.1.e=h.e:=by
 unfold zA3;repeat' split
 all_goals exact⟨rfl,rfl⟩
theorem zIF:(zAR lim L h t).2.1.s=h.s∧(zAR lim L h t).2.1.e=h.e:=by
 unfold zAR;repeat' split
 all_goals exact⟨rfl,rfl⟩
theorem zIC:(zAU lim L h x).2.1.s=h.s∧(zAU lim L h x).2.1.e=h.e:=by
 unfold zAU;split<;>exact⟨rfl,rfl⟩
theorem zID:(zAO lim L h x).2.1.s=h.s∧(zAO lim L h x).2.1.e=h.e:=by
 unfold zAO;split<;>exact⟨rfl,rfl⟩
theorem zRB:(zB9 lim L h who t).2.1.s=h.s∧(zB9 lim L h who t).2.1.e=h.e:=by
 unfold zB9;split
 · exact⟨rfl,rfl⟩
 · exact zIE
theorem zKX:(zA9 lim L h t).2.1.s=h.s∧(zA9 lim L h t).2.1.e=h.e:=by
 unfold zA9;repeat' split
 all_goals first|exact⟨rfl,rfl⟩|exact zIC|exact zIE
theorem zPP {part:Int}:(zAe lim L h t part).2.1.s=h.s∧(zAe lim L h t part).2.1.e=h.e:=by
 unfold zAe;split
 · exact zIE (h:={ h with re:=part })
 · exact zID
theorem zCf (e:Int)(he:S e):∀(l:List Int) (L:List Nd) (h:Sh) (m:List Int),S h.s→S h.e→Ex lim S L (zAJ lim e L h m l).1
 | [],L,h,m,h1,h2=>Ex.refl _
 | t::l,L,h,m,h1,h2=>by
   have m1:=zIF (lim:=lim) (L:=L) (h:=h) (t:=t);have m2:=zKX (lim:=lim) (L:=L) (h:=h) (t:=t);have m3:=zKX (lim:=lim) (L:=L) (h:={ h with e:=e }) (t:=t);simp only at m3;unfold zAJ;repeat' split
   all_goals first|exact zGb|exact zGb.trans (zCf e he l _ _ _ (by rw[m1.1];exact h1) (by rw[m1.2];exact h2))|exact zK2 (h:={ h with e:=e }) h1 he|exact(zK2 (h:={ h with e:=e }) h1 he).trans (zCf e he l _ _ _ (by rw[m3.1];exact h1) (by rw[m3.2];exact he))|exact zK2 h1 h2|exact(zK2 h1 h2).trans (zCf e he l _ _ _ (by rw[m2.1];exact h1) (by rw[m2.2];exact h2))
theorem zEQ (msg:List Int):∀(l:List Int) (L:List Nd) (h:Sh) (n:Nat),Ex lim S L (zAY lim msg L h n l).1
 | [],L,h,n=>Ex.refl _
 | t::l,L,h,n=>by
   unfold zAY;repeat' split
   all_goals first|exact zGb|exact zGb.trans (zEQ msg l _ _ _)|exact zJ1|exact zJ1.trans (zEQ msg l _ _ _)
theorem zQH (he:S e)(h1:S h.s)(h2:S h.e):Ex lim S L (zAK lim L h e x).1:=by
 unfold zAK;dsimp only;repeat' split
 all_goals first|exact Ex.refl _|exact zCf e he _ _ _ _ h1 h2|exact(zCf e he _ _ _ _ h1 h2).trans zIo
theorem zSP {msg:List Int}:Ex lim S L (zAN lim L h msg).1:=by
 unfold zAN;dsimp only;repeat' split
 all_goals first|exact Ex.refl _|exact zEQ msg _ _ _ _|exact(zEQ msg _ _ _ _).trans zIp
theorem zQK:Ex lim S L (zBM lim L h).1:=by
 unfold zBM;repeat' split
 all_goals first|exact Ex.refl _|exact zT3
theorem zVq:Ex lim S L (zGl lim L h).1:=by unfold zGl;split<;>exact zQK
theorem zSN {t:Tr}:Ex lim S L (zB8 lim L t q).1:=by unfold zB8;split<;>exact zK3
theorem zQE {t:Tr}{send:Bool}:Ex lim S L (zBV lim L t send).1:=by unfold zBV;cases send<;>simp only[Bool.false_eq_true,if_true,if_false]<;>split<;>exact zSS
theorem zIr {s x:Ss}:Ex lim S L (zAI lim L s x).1:=by
 unfold zAI;split
 · exact Ex.refl _
 · exact zVq
theorem zJ2:∀(l:List Int) (L:List Nd) (t:Int),Ex lim S L (zBj lim L t l).1
 | [],L,t=>Ex.refl _
 | c::l,L,t=>by
   have h1:Ex lim S L (zEH lim L t c).1:=by
    unfold zEH;split
    · exact(ex_mk ⟨by simp,by simp⟩).trans (ex_mk ⟨by simp,by simp⟩)
    · exact ex_mk ⟨by simp,by simp⟩
   unfold zBj;split
   · exact h1.trans (zJ2 l _ _)
   · exact h1
theorem zT5 {name:ByteArray}{pr:Int}:Ex lim S L (zBX lim L name pr).1:=by
 have h1:=zJ2 (S:=S) (lim:=lim) (zCh name) L 0;unfold zBX;repeat' split
 · exact Ex.refl _
 · exact h1.trans zC3
 · exact h1
theorem zHi (who:Int):∀(l:List Int) (L:List Nd) (h:Sh),(zAl lim who L h l).2.1.s=h.s∧(zAl lim who L h l).2.1.e=h.e
 | [],L,h=>⟨rfl,rfl⟩
 | t::l,L,h=>by
   have h1:=zRB (lim:=lim) (L:=L) (h:=h) (who:=who) (t:=t);have h2:=zHi who l (zB9 lim L h who t).1 (zB9 lim L h who t).2.1;unfold zAl;split
   · exact⟨h2.1.trans h1.1,h2.2.trans h1.2⟩
   · exact h1
theorem zHp (who:Int):∀(l:List Int) (L:List Nd) (h:Sh),S h.s→S h.e→Ex lim S L (zAl lim who L h l).1
 | [],L,h,h1,h2=>Ex.refl _
 | t::l,L,h,h1,h2=>by
   have m1:=zRB (lim:=lim) (L:=L) (h:=h) (who:=who) (t:=t);unfold zAl;split
   · exact(zSO h1 h2).trans (zHp who l _ _ (by rw[m1.1];exact h1) (by rw[m1.2];exact h2))
   · exact zSO h1 h2
theorem zNv {p:Pat}{role:Int}{k:Ks}{q:List Nd × Sy × Int}(h1:S k.s)(h2:S k.e):Ex lim S q.1 (zAu lim p role k q).1:=by
 have m1:=zHi (lim:=lim) 0 p.pre0 q.1 (sh0 role p k q.2.1);unfold zAu;dsimp only;repeat' split
 all_goals first|exact Ex.refl _|exact zHp 0 _ _ _ h1 h2|exact(zHp 0 _ _ _ h1 h2).trans (zHp 1 _ _ _ (by rw[m1.1];exact h1) (by rw[m1.2];exact h2))
theorem zSQ {d:Dv}{p:Pat}{role peer pr:Int}(h0:S 0)(h1:S d.secret):Ex lim S L (zAX lim L d p role peer pr).1:=by
 unfold zAX;split
 · exact Ex.refl _
 · split
   · exact Ex.refl _
   · simp only
     unfold zBY;repeat' split
     all_goals first|exact Ex.refl _|(refine zT5.trans (zNv ?_ ?_)<;>(unfold zHf zKU;simp only;split<;>first|exact h0|exact h1))
theorem zFo {s:Ss}{pl wa wc:Int}(he:S e)(h1:S s.h.s)(h2:S s.h.e):Ex lim S L (zAE lim L s e pl wa wc).1:=by
 unfold zAE;split
 · exact Ex.refl _
 · have k1:Ex lim S L (zAL lim L s e pl).1:=by
    unfold zAL;split
    · exact zSN
    · exact zQH he h1 h2
   unfold zBR;repeat' split
   all_goals first|exact k1|exact k1.trans zIr
theorem zQI {s:Ss}{d:Dv}{msg:List Int}{wa wc:Int}:Ex lim S L (zAP lim L s d msg wa wc).1:=by
 have h1:Ex lim S L (zAc lim L s d msg).1:=by
  unfold zAc;repeat' split
  all_goals exact zSP
 have h2:Ex lim S L (zAr lim L s d msg).1:=by
  unfold zAr;simp only;split
  · exact h1
  · exact h1.trans zIr
 have h3:Ex lim S L (zAo lim L s d msg).1:=by
  unfold zAo;repeat' split
  all_goals first|exact h2|exact Ex.refl _
 unfold zAP;split
 · exact Ex.refl _
 · unfold zEB
   split<;>exact h3
theorem zNw {s:Ss}{send:Bool}:Ex lim S L (zAb lim L s send).1:=by
 unfold zAb;repeat' split
 all_goals first|exact Ex.refl _|exact zQE
theorem zDO (e:Int):∀(l:List Int) (L:List Nd) (h:Sh) (m:List Int),(zAJ lim e L h m l).2.1.s=h.s∧((zAJ lim e L h m l).2.1.e=h.e∨(zAJ lim e L h m l).2.1.e=e)
 | [],L,h,m=>⟨rfl,.inl rfl⟩
 | t::l,L,h,m=>by
   have m1:=zIF (lim:=lim) (L:=L) (h:=h) (t:=t);have m2:=zKX (lim:=lim) (L:=L) (h:=h) (t:=t);have m3:=zKX (lim:=lim) (L:=L) (h:={ h with e:=e }) (t:=t);simp only at m3;have r1:=zDO e l (zAR lim L h t).1 (zAR lim L h t).2.1 m;have r2:=zDO e l (zA9 lim L h t).1 (zA9 lim L h t).2.1 (m++[(zA9 lim L h t).2.2.1]);have r3:=zDO e l (zA9 lim L { h with e:=e } t).1 (zA9 lim L { h with e:=e } t).2.1 (m++[(zA9 lim L { h with e:=e } t).2.2.1]);rw[m1.1,m1.2]at r1;rw[m2.1,m2.2]at r2;rw[m3.1,m3.2]at r3;unfold zAJ;repeat' split
   all_goals first|exact⟨rfl,.inl rfl⟩|exact r1|exact⟨r3.1,.inr (r3.2.elim id id)⟩|exact r2
theorem zFb (msg:List Int):∀(l:List Int) (L:List Nd) (h:Sh) (n:Nat),(zAY lim msg L h n l).2.1.s=h.s∧(zAY lim msg L h n l).2.1.e=h.e
 | [],L,h,n=>⟨rfl,rfl⟩
 | t::l,L,h,n=>by
   have m1:=zIF (lim:=lim) (L:=L) (h:=h) (t:=t);have m2:=zPP (lim:=lim) (L:=L) (h:=h) (t:=t) (part:=msg.getD n 0);have r1:=zFb msg l (zAR lim L h t).1 (zAR lim L h t).2.1 n;have r2:=zFb msg l (zAe lim L h t (msg.getD n 0)).1 (zAe lim L h t (msg.getD n 0)).2.1 (n+1);rw[m1.1,m1.2]at r1;rw[m2.1,m2.2]at r2;unfold zAY;repeat' split
   all_goals first|exact⟨rfl,rfl⟩|exact r1|exact r2
theorem zPN:(zAK lim L h e x).2.1.s=h.s∧((zAK lim L h e x).2.1.e=h.e∨(zAK lim L h e x).2.1.e=e):=by
 have r:=zDO (lim:=lim) e (zAq h) L h [];unfold zAK;dsimp only;repeat' split
 all_goals first
  | exact⟨rfl,.inl rfl⟩
  | (have q:=zIC (lim:=lim) (L:=(zAJ lim e L h [] (zAq h)).1) (h:=(zAJ lim e L h [] (zAq h)).2.1) (x:=x)
     simp only[q.1,q.2];exact r)
theorem zRC {msg:List Int}:(zAN lim L h msg).2.1.s=h.s∧(zAN lim L h msg).2.1.e=h.e:=by
 have r:=zFb (lim:=lim) msg (zAq h) L h 0;unfold zAN;dsimp only;repeat' split
 all_goals first
  | exact⟨rfl,rfl⟩
  | (have q:=zID (lim:=lim) (L:=(zAY lim msg L h 0 (zAq h)).1) (h:=(zAY lim msg L h 0 (zAq h)).2.1) (x:=msg.getD (zAY lim msg L h 0 (zAq h)).2.2.1 0)
     simp only[q.1,q.2];exact r)
theorem zG5 {s x:Ss}:(zAI lim L s x).2.1.h=x.h:=by
 unfold zAI;split<;>rfl
theorem zM5 {s:Ss}{pl wa wc:Int}(he:(zAE lim L s e pl wa wc).2.2.2=0):(zAE lim L s e pl wa wc).2.1.h.s=s.h.s∧((zAE lim L s e pl wa wc).2.1.h.e=s.h.e∨(zAE lim L s e pl wa wc).2.1.h.e=e) ∧
 (zAE lim L s e pl wa wc).2.1.note.sent=true∧(zAE lim L s e pl wa wc).2.1.note.payload=pl∧(zAE lim L s e pl wa wc).2.1.note.own=(zAE lim L s e pl wa wc).2.1.h.e:=by
 have h1:(zAL lim L s e pl).2.1.h.s=s.h.s∧((zAL lim L s e pl).2.1.h.e=s.h.e∨(zAL lim L s e pl).2.1.h.e=e):=by
  unfold zAL;split
  · exact⟨rfl,.inl rfl⟩
  · exact zPN
 unfold zAE at he ⊢;split at he
 · rename_i q;exact absurd he q
 · rename_i q
   rw[if_neg q];unfold zBR at he ⊢;split at he
   · rename_i q2;exact absurd he q2
   · rename_i q2
     rw[if_neg q2];split at he
     · rename_i q3;exact absurd he q3
     · rename_i q3
       rw[if_neg q3];refine⟨?_,?_,rfl,rfl,rfl⟩
       · show(zAI lim _ s _).2.1.h.s=_
         rw[zG5];exact h1.1
       · show(zAI lim _ s _).2.1.h.e=_∨(zAI lim _ s _).2.1.h.e=_
         rw[zG5];exact h1.2
theorem zPO {s:Ss}{d:Dv}{msg:List Int}{wa wc:Int}:(zAP lim L s d msg wa wc).2.1.h.s=s.h.s∧(zAP lim L s d msg wa wc).2.1.h.e=s.h.e∧((zAP lim L s d msg wa wc).2.1.note.own=s.note.own∨(zAP lim L s d msg wa wc).2.1.note.own=s.h.e) ∧
 ((zAP lim L s d msg wa wc).2.2.2=0→(zAP lim L s d msg wa wc).2.1.note.sent=false):=by
 have h1:(zAc lim L s d msg).2.1.h.s=s.h.s∧(zAc lim L s d msg).2.1.h.e=s.h.e:=by
  unfold zAc;repeat' split
  all_goals first|exact⟨rfl,rfl⟩|exact zRC
 have h2:(zAr lim L s d msg).2.1.h.s=s.h.s∧(zAr lim L s d msg).2.1.h.e=s.h.e:=by
  unfold zAr;simp only;split
  · exact h1
  · simp only[zG5]
    exact h1
 have h3:(zAo lim L s d msg).2.1.h=s.h∧(zAo lim L s d msg).2.1.note=s.note∧(zAo lim L s d msg).2.2.1.h.s=s.h.s∧(zAo lim L s d msg).2.2.1.h.e=s.h.e:=by
  unfold zAo;repeat' split
  all_goals first|exact⟨rfl,rfl,h2⟩|exact⟨rfl,rfl,rfl,rfl⟩
 unfold zAP;split
 · rename_i q;exact⟨rfl,rfl,.inl rfl,fun h=>absurd h q⟩
 · unfold zEB
   split
   · rename_i q
     simp only;rw[h3.1,h3.2.1];exact⟨rfl,rfl,.inl rfl,fun h=>absurd h q⟩
   · exact⟨h3.2.2.1,h3.2.2.2,.inr h3.2.2.2,fun _=>rfl⟩
theorem zM6 {s:Ss}{send:Bool}:(zAb lim L s send).2.1.h=s.h∧(zAb lim L s send).2.1.note=s.note:=by
 unfold zAb;repeat' split
 all_goals exact⟨rfl,rfl⟩
theorem zRD {d:Dv}{p:Pat}{role peer pr:Int}(he:(zAX lim L d p role peer pr).2.2=0):((zAX lim L d p role peer pr).2.1.h.s=0∨(zAX lim L d p role peer pr).2.1.h.s=d.secret)∧(zAX lim L d p role peer pr).2.1.h.e=0∧(zAX lim L d p role peer pr).2.1.note=nt0:=by
 unfold zAX at he ⊢;split at he
 · simp at he
 · rename_i q1
   rw[if_neg q1];split at he
   · rename_i q2;exact absurd he q2.2
   · rename_i q2
     rw[if_neg q2];simp only at he ⊢;have hs:∀(k:Ks) (q:List Nd × Sy × Int),(zAu lim p role k q).2.2=0→(zAu lim p role k q).2.1.s=k.s∧(zAu lim p role k q).2.1.e=k.e:=by
      intro k q hq;have m1:=zHi (lim:=lim) 0 p.pre0 q.1 (sh0 role p k q.2.1);have m2:=zHi (lim:=lim) 1 p.pre1 (zAl lim 0 q.1 (sh0 role p k q.2.1) p.pre0).1 (zAl lim 0 q.1 (sh0 role p k q.2.1) p.pre0).2.1;unfold zAu at hq ⊢;dsimp only at hq ⊢;split at hq
      · rename_i q1;exact absurd hq q1
      · rename_i q1
        rw[if_neg q1];split at hq
        · rename_i q2;exact absurd hq q2
        · rename_i q2
          rw[if_neg q2];split at hq
          · rename_i q3;exact absurd hq q3
          · rename_i q3
            rw[if_neg q3];exact⟨m2.1.trans m1.1,m2.2.trans m1.2⟩
     unfold zBY at he ⊢;split at he
     · rename_i q3;exact absurd he q3
     · rename_i q3
       rw[if_neg q3];split at he
       · simp at he
       · rename_i q4
         rw[if_neg q4];split at he
         · simp at he
         · rename_i q5
           rw[if_neg q5];obtain⟨r1,r2⟩:=hs _ _ he;refine⟨?_,?_,rfl⟩
           · show(zAu lim p role _ _).2.1.s=0∨(zAu lim p role _ _).2.1.s=_
             rw[r1];unfold zHf zKU;simp only;split
             · exact .inr rfl
             · exact .inl rfl
           · show(zAu lim p role _ _).2.1.e=0
             rw[r2];unfold zHf zKU;simp only;split<;>rfl
end
def Sn (L:List Nd)(E:List Evt)(x:Int):Prop:=has L x=true∧(nd L x).k=1∧(nd L x).n<4294967296∧∀e∈E,e.note.sent=true→e.note.payload≠x
def Sn0 (L:List Nd)(E:List Evt)(x:Int):Prop:=x=0∨Sn L E x
theorem Sn.more {L M:List Nd}{E:List Evt}{x:Int}(h:Sn L E x):Sn (L++M) E x:=⟨zBo h.1,by rw[zAt h.1];exact h.2.1,by rw[zAt h.1];exact h.2.2.1,h.2.2.2⟩
theorem Sn0.more {L M:List Nd}{E:List Evt}{x:Int}(h:Sn0 L E x):Sn0 (L++M) E x:=h.imp id Sn.more
theorem Sn0.evt {L:List Nd}{E:List Evt}{x:Int}(h:Sn0 L E x){e:Evt}(he:e.note.sent=true→has L x=true→e.note.payload≠x):Sn0 L (E++[e]) x:=by
 rcases h with h|h
 · exact .inl h
 · refine .inr ⟨h.1,h.2.1,h.2.2.1,fun e' he' hs=>?_⟩
   rcases List.mem_append.1 he' with k|k
   · exact h.2.2.2 e' k hs
   · rw[List.mem_singleton]at k
     subst k;exact he hs h.1
structure GI (W:Wd):Prop where
 good:Good zAB W.L
 known:∀x,W.K x=true→has W.L x=true
 closed:Closed W.L W.K
 heard:∀x∈W.heard,W.K x=true
 fresh:0≤W.fresh
 name:∀x,has W.L x=true→(nd W.L x).k=1→(nd W.L x).n≤W.fresh∨4294967296≤(nd W.L x).n
 pub:∀x,has W.L x=true→(nd W.L x).k=2→Sn0 W.L W.evs (nd W.L x).a∨can W.L W.K (nd W.L x).a=true
 dev:∀d∈W.devs,Sn0 W.L W.evs d.secret∧∀kx∈d.psks,Sn0 W.L W.evs kx.2
 part:∀x∈W.parts,ShOk x.s.h∧Sn0 W.L W.evs x.s.h.s∧Sn0 W.L W.evs x.s.h.e∧Sn0 W.L W.evs x.s.note.own
 pay:∀e∈W.evs,e.note.sent=true→has W.L e.note.payload=true∧(nd W.L e.note.payload).k=1∧(nd W.L e.note.payload).n<4294967296∧Sn0 W.L W.evs e.note.own
 one:∀e∈W.evs,∀e'∈W.evs,e.note.sent=true→e'.note.sent=true→e.note.payload=e'.note.payload→e.note.key=e'.note.key
section
variable {W:Wd}{L' M:List Nd}{o:WOp}
theorem zNt (g:GI W)(hg:Good zAB (W.L++M))(hn:∀n∈M,(n.k=1→n.n≤W.fresh∨4294967296≤n.n)∧(n.k=2→Sn0 W.L W.evs n.a∨can (W.L++M) W.K n.a=true)):GI { W with L:=W.L++M }:=by
 have new:∀x,has (W.L++M) x=true→has W.L x=true∨nd (W.L++M) x∈M:=by
  intro x hx;obtain⟨i,rfl,hi⟩:=zEq hx;by_cases h:i<W.L.length
  · exact .inl (zIi h)
  · right
    rw[zIT hi,List.getElem_append_right (by omega)];exact List.getElem_mem _
 refine⟨hg,fun x hx=>zBo (g.known x hx),zJ7 g.good hg g.known g.closed,g.heard,g.fresh,?_,?_,?_,?_,?_,g.one⟩
 · intro x hx hk
   rcases new x hx with h|h
   · simp only at hk ⊢
     rw[zAt h]at hk ⊢;exact g.name x h hk
   · exact(hn _ h).1 hk
 · intro x hx hk
   rcases new x hx with h|h
   · simp only at hk ⊢
     rw[zAt h]at hk ⊢;exact(g.pub x h hk).imp Sn0.more (zKB g.good hg g.known)
   · exact((hn _ h).2 hk).imp Sn0.more id
 · intro d hd
   exact⟨(g.dev d hd).1.more,fun kx hk=>((g.dev d hd).2 kx hk).more⟩
 · intro x hx
   obtain⟨a,b,c,d⟩:=g.part x hx;exact⟨a,b.more,c.more,d.more⟩
 · intro e he hs
   obtain⟨a,b,c,d⟩:=g.pay e he hs;simp only;rw[zAt a];exact⟨zBo a,b,c,d.more⟩
theorem zMH (g:GI W)(h:Ex zAB (Sn0 W.L W.evs) W.L L'):GI { W with L:=L' }:=by
 obtain⟨⟨M,rfl,h1⟩,h2⟩:=h;exact zNt g (h2 g.good) fun n hn=>⟨fun hk=>absurd hk (h1 n hn).1,fun hk=>.inl ((h1 n hn).2 hk)⟩
theorem zO5 {x:Int}(h:0≤x∧x<4294967295):IntKind.u64.wrap (x+1)=x+1:=by
 have h1:IntKind.u64.wrap (x+1)=(x+1) % 18446744073709551616:=rfl;rw[h1];omega
theorem zDh (g:GI W)(hf:W.fresh<4294967295):GI (zAw W).1∧(zAw W).1.fresh=W.fresh+1∧(zAw W).1.evs=W.evs∧(zAw W).1.K=W.K∧(zAw W).1.devs=W.devs∧(zAw W).1.parts=W.parts∧Gr 1 W.L (zAw W).1.L ∧
 ((zAw W).2.2=0→(zAw W).2.1=W.L.length∧Sn (zAw W).1.L W.evs (zAw W).2.1):=by
 have hw:=zO5 ⟨g.fresh,hf⟩;have h0:GI { W with fresh:=W.fresh+1 }:=⟨g.good,g.known,g.closed,g.heard,by have:=g.fresh;simp only;omega,fun x hx hk=>by have:=g.name x hx hk;simp only at this ⊢;omega,g.pub,g.dev,g.part,g.pay,g.one⟩
 unfold zAw zJI;dsimp only;rw[hw];rcases zCx zAB W.L ⟨1,W.fresh+1,0,0,0⟩with ⟨h,-⟩|⟨i,h,-,hi⟩|⟨h,-⟩|⟨h,hr,hfn,hl⟩<;>rw[h]
 · exact⟨h0,rfl,rfl,rfl,rfl,rfl,Gr.refl _ _,fun h=>by simp at h⟩
 · obtain⟨q1,q2⟩:=zGZ hi
   have:=g.name i (zIi q1) (by rw[q2]);rw[q2]at this;simp only at this;have:=g.fresh;omega
 · exact⟨h0,rfl,rfl,rfl,rfl,rfl,Gr.refl _ _,fun h=>by simp at h⟩
 · refine⟨?_,rfl,rfl,rfl,rfl,rfl,⟨_,rfl,by simp⟩,fun _=>⟨rfl,zGT.2 (.inr rfl),by simp only;rw[zEG],by simp only;rw[zEG];simp only;omega,fun e he hs=>?_⟩⟩
   · refine zNt (W:={ W with fresh:=W.fresh+1 }) h0 (g.good.snoc hr hfn hl) fun n hn=>?_
     rw[List.mem_singleton]at hn;subst hn;exact⟨fun _=>.inl (Int.le_refl _),fun h=>by simp at h⟩
   · have:=zAV.1 (g.pay e he hs).1
     simp only;omega
theorem zGX (g:GI W)(x:Int):GI (zAd W x).1∧(∀y,W.K y=true→(zAd W x).1.K y=true)∧(has W.L x=true→(zAd W x).1.K x=true)∧(zAd W x).1.L=W.L∧(zAd W x).1.evs=W.evs∧(zAd W x).1.fresh=W.fresh∧(zAd W x).1.parts=W.parts∧(zAd W x).1.devs=W.devs:=by
 unfold zAd;by_cases hx:has W.L x=true
 · rw[if_pos hx]
   have hh:∀y,ins W.K x y=true→has W.L y=true:=fun y hy=>by
    rcases zCo.1 hy with h|rfl
    · exact g.known y h
    · exact hx
   have up:∀y,W.K y=true→cl W.L (ins W.K x) y=true:=fun y hy=>zUc (zCo.2 (.inl hy))
   have kx:cl W.L (ins W.K x) x=true:=zUc (zCo.2 (.inr rfl));refine⟨⟨g.good,fun y hy=>zUd g.good hh hy,zSl _ _,?_,g.fresh,g.name,fun y hy hk=>(g.pub y hy hk).imp id (zHu up),g.dev,g.part,g.pay,g.one⟩,up,fun _=>kx,rfl,rfl,rfl,rfl,rfl⟩;intro y hy;rcases List.mem_append.1 hy with h|h
   · exact up y (g.heard y h)
   · rw[List.mem_singleton]at h;subst h;exact kx
 · rw[if_neg hx]
   exact⟨g,fun _ h=>h,fun h=>absurd h hx,rfl,rfl,rfl,rfl,rfl⟩
theorem zMG:∀(l:List Int) {W:Wd},GI W→GI (zAz W l)∧(∀y,W.K y=true→(zAz W l).K y=true)∧(zAz W l).L=W.L∧(zAz W l).evs=W.evs∧(zAz W l).fresh=W.fresh∧(zAz W l).parts=W.parts∧(zAz W l).devs=W.devs
 | [],W,g=>⟨g,fun _ h=>h,rfl,rfl,rfl,rfl,rfl⟩
 | x::l,W,g=>by
   obtain⟨a1,a2,a3,a4,a5,a6,a7,a8⟩:=zGX g x;obtain⟨b1,b2,b4,b5,b6,b7,b8⟩:=zMG l a1;exact⟨b1,fun y hy=>b2 y (a2 y hy),b4.trans a4,b5.trans a5,b6.trans a6,b7.trans a7,b8.trans a8⟩
theorem zKz (g:GI W){n:Int}{x:Pt}(h:ShOk x.s.h∧Sn0 W.L W.evs x.s.h.s∧Sn0 W.L W.evs x.s.h.e∧Sn0 W.L W.evs x.s.note.own):GI (W.setPart n x):=by
 refine⟨g.good,g.known,g.closed,g.heard,g.fresh,g.name,g.pub,g.dev,?_,g.pay,g.one⟩;intro y hy;rcases List.mem_or_eq_of_mem_set hy with h1|rfl
 · exact g.part y h1
 · exact h
theorem zNu (g:GI W){ds:List Dv}(h:∀d∈ds,Sn0 W.L W.evs d.secret∧∀kx∈d.psks,Sn0 W.L W.evs kx.2):GI { W with devs:=ds }:=⟨g.good,g.known,g.closed,g.heard,g.fresh,g.name,g.pub,h,g.part,g.pay,g.one⟩
theorem zSF (g:GI W){ms:List (List Int)}:GI { W with msgs:=ms }:=⟨g.good,g.known,g.closed,g.heard,g.fresh,g.name,g.pub,g.dev,g.part,g.pay,g.one⟩
theorem zWa (g:GI W){e:Evt}(hs:e.note.sent=false):GI { W with evs:=W.evs++[e] }:=by
 have ev:∀{x},Sn0 W.L W.evs x→Sn0 W.L (W.evs++[e]) x:=fun h=>h.evt fun k=>by rw[hs]at k;exact Bool.noConfusion k
 have old:∀e'∈W.evs++[e],e'.note.sent=true→e'∈W.evs:=fun e' he' h=>by
  rcases List.mem_append.1 he' with k|k
  · exact k
  · rw[List.mem_singleton]at k;subst k;rw[hs]at h;exact Bool.noConfusion h
 refine⟨g.good,g.known,g.closed,g.heard,g.fresh,g.name,fun x hx hk=>(g.pub x hx hk).imp ev id,fun d hd=>⟨ev (g.dev d hd).1,fun kx hk=>ev ((g.dev d hd).2 kx hk)⟩,fun x hx=>?_,fun e' he' h=>?_,fun e1 h1 e2 h2 s1 s2=>g.one e1 (old e1 h1 s1) e2 (old e2 h2 s2) s1 s2⟩
 · obtain⟨a,b,c,d⟩:=g.part x hx
   exact⟨a,ev b,ev c,ev d⟩
 · obtain⟨a,b,c,d⟩:=g.pay e' (old e' he' h) h
   exact⟨a,b,c,ev d⟩
theorem zP9 (g:GI W)(hf:W.fresh<4294967295)(h0:(zAw W).2.2=0){e:Evt}(hp:e.note.payload=(zAw W).2.1)(ho:Sn0 W.L W.evs e.note.own):GI { (zAw W).1 with evs:=W.evs++[e] }:=by
 obtain⟨a1,a2,a3,a4,a5,a6,a7,a8⟩:=zDh g hf;obtain⟨b1,b2⟩:=a8 h0;rw[← hp]at b1 b2;obtain⟨M,hM,-⟩:=a7;have ne:∀{x},has W.L x=true→e.note.payload≠x:=fun h=>by have:=zAV.1 h;omega
 have ev0:∀{x},Sn0 W.L W.evs x→Sn0 (zAw W).1.L (W.evs++[e]) x:=fun {x} h=>by
  rw[hM];exact Sn0.more (h.evt fun _ hx=>ne hx)
 have old:∀{x},has (zAw W).1.L x=true→has W.L x=true∨x=e.note.payload:=fun {x} hx=>by
  by_cases hl:has W.L x=true
  · exact .inl hl
  · right
    have h1:=zAV.1 hx;have h2:¬(0≤x∧x<W.L.length):=fun h=>hl (zAV.2 h)
    rw[b1];have h3:(zAw W).1.L.length≤W.L.length+1:=(zDh g hf).2.2.2.2.2.2.1.len.2;omega
 refine⟨a1.good,a1.known,a1.closed,a1.heard,a1.fresh,a1.name,fun x hx hk=>?_,fun d hd=>?_,fun x hx=>?_,fun e' he' hs=>?_,fun e1 h1 e2 h2 s1 s2 hp12=>?_⟩
 · rcases old hx with h|h
   · have hn:nd (zAw W).1.L x=nd W.L x:=by rw[hM];exact zAt h
     simp only at hk ⊢;rw[hn]at hk ⊢;rcases g.pub x h hk with q|q
     · exact .inl (ev0 q)
     · refine .inr ?_
       have hg:=a1.good;rw[hM]at hg ⊢;rw[a4];exact zKB g.good hg g.known q
   · simp only at hk
     rw[h,b2.2.1]at hk;omega
 · rw[show(({ (zAw W).1 with evs:=W.evs++[e] }:Wd).devs)=W.devs from a5]at hd
   exact⟨ev0 (g.dev d hd).1,fun kx hk=>ev0 ((g.dev d hd).2 kx hk)⟩
 · rw[show(({ (zAw W).1 with evs:=W.evs++[e] }:Wd).parts)=W.parts from a6]at hx
   obtain⟨q1,q2,q3,q4⟩:=g.part x hx;exact⟨q1,ev0 q2,ev0 q3,ev0 q4⟩
 · rcases List.mem_append.1 he' with k|k
   · obtain⟨q1,q2,q3,q4⟩:=g.pay e' k hs
     have hn:nd (zAw W).1.L e'.note.payload=nd W.L e'.note.payload:=by rw[hM];exact zAt q1
     refine⟨by show has (zAw W).1.L _=true;rw[hM];exact zBo q1,?_,?_,ev0 q4⟩
     · show(nd (zAw W).1.L _).k=1;rw[hn];exact q2
     · show(nd (zAw W).1.L _).n<_;rw[hn];exact q3
   · rw[List.mem_singleton]at k
     subst k;exact⟨b2.1,b2.2.1,b2.2.2.1,ev0 ho⟩
 · rcases List.mem_append.1 h1 with k1|k1<;>rcases List.mem_append.1 h2 with k2|k2
   · exact g.one e1 k1 e2 k2 s1 s2 hp12
   · rw[List.mem_singleton]at k2;subst k2
     exact absurd hp12.symm (ne (g.pay e1 k1 s1).1)
   · rw[List.mem_singleton]at k1;subst k1
     exact absurd hp12 (ne (g.pay e2 k2 s2).1)
   · rw[List.mem_singleton]at k1 k2;subst k1;subst k2;rfl
theorem zDt (W:Wd)(x:Int):(zAd W x).1.L=W.L∧(zAd W x).1.evs=W.evs∧(zAd W x).1.fresh=W.fresh∧(zAd W x).1.parts=W.parts∧(zAd W x).1.devs=W.devs:=by
 unfold zAd;split<;>exact⟨rfl,rfl,rfl,rfl,rfl⟩
theorem zEI:∀(l:List Int) (W:Wd),(zAz W l).L=W.L∧(zAz W l).evs=W.evs∧(zAz W l).fresh=W.fresh∧(zAz W l).parts=W.parts∧(zAz W l).devs=W.devs
 | [],W=>⟨rfl,rfl,rfl,rfl,rfl⟩
 | x::l,W=>by
   obtain⟨a1,a2,a3,a4,a5⟩:=zDt W x;obtain⟨b1,b2,b3,b4,b5⟩:=zEI l (zAd W x).1;exact⟨b1.trans a1,b2.trans a2,b3.trans a3,b4.trans a4,b5.trans a5⟩
theorem zJt:∀(l:List Int) (W:Wd) (E:List Evt),zAz { W with evs:=E } l = { zAz W l with evs:=E }
 | [],W,E=>rfl
 | x::l,W,E=>by
   have h:(zAd { W with evs:=E } x).1 = { (zAd W x).1 with evs:=E }:=by unfold zAd;simp only;split<;>rfl
   show zAz (zAd { W with evs:=E } x).1 l = { zAz (zAd W x).1 l with evs:=E };rw[h];exact zJt l _ E
end
structure Nx (W W':Wd):Prop where
 len:∃n,Gr n W.L W'.L
 evs:∃l,W'.evs=W.evs++l∧∀e∈l,e.note.sent=true→(W.L.length:Int)≤e.note.payload
 K:∀y,W.K y=true→W'.K y=true
 fresh:W'.fresh≤W.fresh+2
section
variable {W W':Wd}{o:WOp}
theorem Nx.mk0 {n:Nat}(hl:Gr n W.L W'.L)(he:W'.evs=W.evs)(hK:∀y,W.K y=true→W'.K y=true)(hf:W'.fresh≤W.fresh+2):Nx W W':=⟨⟨n,hl⟩,⟨[],by rw[he];simp,by simp⟩,hK,hf⟩
theorem Nx.refl (W:Wd):Nx W W:=Nx.mk0 (Gr.refl 0 _) rfl (fun _ h=>h) (by omega)
theorem zT4 {lim:Nat}{S:Int→Prop}{L L':List Nd}(h:Ex lim S L L'):∃n,Gr n L L':=by obtain⟨⟨M,hM,-⟩,-⟩:=h;exact⟨M.length,M,hM,Nat.le_refl _⟩
theorem zSH (g:GI W)(hf:W.fresh<4294960000):GI (zBO W o).1∧Nx W (zBO W o).1:=by
 obtain⟨a1,a2,a3,a4,a5,a6,a7,a8⟩:=zDh g (by omega);unfold zBO;split
 · exact⟨g,Nx.refl _⟩
 split
 · exact⟨g,Nx.refl _⟩
 split
 · exact⟨g,Nx.refl _⟩
 dsimp only;generalize zAw W=q at a1 a2 a3 a4 a5 a6 a7 a8 ⊢;obtain⟨W1,p,e1⟩:=q;dsimp only at a1 a2 a3 a4 a5 a6 a7 a8 ⊢;split
 · exact⟨a1,Nx.mk0 a7 a3 (fun _ h=>by rw[a4];exact h) (by dsimp only;omega)⟩
 · rename_i h3
   obtain⟨b1,b2⟩:=a8 (by omega);have ex:Ex zAB (Sn0 W1.L W1.evs) W1.L (mk zAB W1.L ⟨2,0,p,0,0⟩).1:=zOu (by simp) (fun _=>.inr (by rw[a3];exact b2));have g2:=zMH a1 ex;have gr2:Gr 2 W.L (mk zAB W1.L ⟨2,0,p,0,0⟩).1:=a7.trans (zB5 _) (by omega);have hs2:Sn0 (mk zAB W1.L ⟨2,0,p,0,0⟩).1 W1.evs p:=by
    obtain⟨⟨M,hM,-⟩,-⟩:=ex;rw[hM];exact Sn0.more (.inr (by rw[a3];exact b2))
   generalize mk zAB W1.L ⟨2,0,p,0,0⟩=u at g2 gr2 hs2 ⊢;split
   · exact⟨g2,Nx.mk0 gr2 a3 (fun _ h=>by show W1.K _=true;rw[a4];exact h) (by show W1.fresh≤_;omega)⟩
   · have g3:GI { W1 with L:=u.1,devs:=W1.devs++[⟨o.a,p,o.b,[],[]⟩] }:=zNu g2 (fun d hd=>by
      rcases List.mem_append.1 hd with h|h
      · exact g2.dev d h
      · rw[List.mem_singleton]at h
        subst h;exact⟨hs2,by simp⟩)
     obtain⟨c1,c2,c3,c4,c5,c6,-⟩:=zGX g3 u.2.1;exact⟨c1,Nx.mk0 (by rw[c4];exact gr2) (c5.trans a3) (fun y h=>c2 y (by show W1.K _=true;rw[a4];exact h)) (by rw[c6];show W1.fresh≤_;omega)⟩
theorem zVN {id:Int}{f:Dv→Dv}{d:Dv}(h:d∈(W.mod id f).devs):∃d0∈W.devs,d=d0∨d=f d0:=by
 unfold Wd.mod at h;obtain⟨d0,h1,h2⟩:=List.mem_map.1 h;refine⟨d0,h1,?_⟩;split at h2
 · exact .inr h2.symm
 · exact .inl h2.symm
theorem zSG (g:GI W){id:Int}{f:Dv→Dv}(hf:∀d∈W.devs,(f d).secret=d.secret∧∀kx∈(f d).psks,Sn0 W.L W.evs kx.2):GI (W.mod id f):=by
 refine zNu g (fun d hd=>?_);obtain⟨d0,h1,h2⟩:=zVN (W:=W) (id:=id) (f:=f) hd;have h3:=g.dev d0 h1;have h4:=hf d0 h1;rcases h2 with rfl|rfl
 · exact h3
 · exact⟨by rw[h4.1];exact h3.1,h4.2⟩
theorem zVk (g:GI W):GI (zEj W o).1∧Nx W (zEj W o).1:=by
 unfold zEj;split
 · exact⟨g,Nx.refl _⟩
 · split
   · exact⟨g,Nx.refl _⟩
   · exact⟨zSG g fun d hd=>⟨rfl,(g.dev d hd).2⟩,Nx.mk0 (Gr.refl 0 _) rfl (fun _ h=>h) (by show W.fresh≤_;omega)⟩
theorem zTi {lim:Int}{kv:List (Int × Int)}{k x:Int}{y:Int × Int}(h:y∈(kput lim kv k x).1):y∈kv∨y.2=x:=by
 unfold kput at h;split at h
 · rcases List.mem_or_eq_of_mem_set h with h1|rfl
   · exact .inl h1
   · exact .inr rfl
 · split at h
   · exact .inl h
   · rcases List.mem_append.1 h with h1|h1
     · exact .inl h1
     · rw[List.mem_singleton]at h1;subst h1;exact .inr rfl
theorem zJY {d:Dv}{k x:Int}{y:Int × Int}(h:y∈(zBJ d k x).1):y∈d.psks∨y.2=x:=by
 unfold zBJ at h;split at h
 · exact .inl h
 · split at h
   · exact .inl h
   · exact zTi h
theorem zWZ (g:GI W)(hf:W.fresh<4294960000):GI (pskW W o).1∧Nx W (pskW W o).1:=by
 obtain⟨a1,a2,a3,a4,a5,a6,a7,a8⟩:=zDh g (by omega);unfold pskW;split
 · split
   · exact⟨g,Nx.refl _⟩
   · dsimp only
     generalize zAw W=q at a1 a2 a3 a4 a5 a6 a7 a8 ⊢;obtain⟨W1,p,e1⟩:=q;dsimp only at a1 a2 a3 a4 a5 a6 a7 a8 ⊢;split
     · exact⟨a1,Nx.mk0 a7 a3 (fun _ h=>by rw[a4];exact h) (by dsimp only;omega)⟩
     · rename_i h3
       obtain⟨b1,b2⟩:=a8 (by omega);rw[← a3]at b2;have g2:GI (W1.mod o.a fun d=>{ d with psks:=(zBJ d o.b p).1 }):=zSG a1 fun d hd=>⟨rfl,fun kx hk=>by
        rcases zJY hk with h|h
        · exact(a1.dev d hd).2 kx h
        · rw[h];exact .inr b2⟩
       have g3:GI ((W1.mod o.a fun d=>{ d with psks:=(zBJ d o.b p).1 }).mod o.b fun d=>{ d with psks:=(zBJ d o.a p).1 }):=zSG g2 fun d hd=>⟨rfl,fun kx hk=>by
        rcases zJY hk with h|h
        · exact(g2.dev d hd).2 kx h
        · rw[h];exact .inr b2⟩
       exact⟨g3,Nx.mk0 a7 a3 (fun _ h=>by show W1.K _=true;rw[a4];exact h) (by show W1.fresh≤_;omega)⟩
 · exact⟨g,Nx.refl _⟩
theorem zN2 {id:Int}{d:Dv}(h:W.dev id=some d):d∈W.devs:=List.mem_of_find?_eq_some h
theorem zVl (g:GI W):GI (zEX W o).1∧Nx W (zEX W o).1:=by
 unfold zEX;split
 · exact⟨g,Nx.refl _⟩
 · rename_i d hd
   split
   · exact⟨g,Nx.refl _⟩
   · have hs:=(g.dev d (zN2 hd)).1
     have ex:Ex zAB (Sn0 W.L W.evs) W.L (zAX zAB W.L d (zCu o.name).1 o.b o.c 0).1:=zSQ (.inl rfl) hs;have g2:=zMH g ex;obtain⟨n,gr⟩:=zT4 ex;have hok:=fun h=>zGo (lim:=zAB) (L:=W.L) (d:=d) (p:=(zCu o.name).1) (role:=o.b) (peer:=o.c) (pr:=0) h
     have hse:=fun h=>zRD (lim:=zAB) (L:=W.L) (d:=d) (p:=(zCu o.name).1) (role:=o.b) (peer:=o.c) (pr:=0) h
     dsimp only;have nx:∀ps:List Pt,Nx W { W with L:=(zAX zAB W.L d (zCu o.name).1 o.b o.c 0).1,parts:=ps }:=fun ps=>Nx.mk0 gr rfl (fun _ h=>h) (by show W.fresh≤_;omega)
     split
     · exact⟨g2,nx W.parts⟩
     · rename_i h3
       split
       · exact⟨g2,nx W.parts⟩
       · refine⟨⟨g2.good,g2.known,g2.closed,g2.heard,g2.fresh,g2.name,g2.pub,g2.dev,?_,g2.pay,g2.one⟩,nx _⟩
         intro x hx;rcases List.mem_append.1 hx with h|h
         · exact g2.part x h
         · rw[List.mem_singleton]at h
           subst h;have h3:=Classical.not_not.1 h3;obtain⟨r1,r2,r3⟩:=hse h3;refine⟨(hok h3).1,?_,.inl r2,.inl (by show(zAX zAB W.L d (zCu o.name).1 o.b o.c 0).2.1.note.own=0;rw[r3];rfl)⟩;show Sn0 _ _ (zAX zAB W.L d (zCu o.name).1 o.b o.c 0).2.1.h.s;rcases r1 with r1|r1<;>rw[r1]
           · exact .inl rfl
           · exact(g2.dev d (zN2 hd)).1
theorem zBu (hh:W.has o.a=true):W.part o.a∈W.parts:=by
 unfold Wd.has at hh;simp only[Bool.and_eq_true,decide_eq_true_eq]at hh;have h:o.a.toNat<W.parts.length:=by omega
 unfold Wd.part;rw[List.getD_eq_getElem?_getD,List.getElem?_eq_getElem h];exact List.getElem_mem h
noncomputable def wr (W:Wd)(L:List Nd)(n:Int)(x:Pt)(m:List Int)(ev:Evt):Wd :=
 let Y:=zAz ({ W with L:=L }.setPart n x) m
 { Y with msgs:=Y.msgs++[m],evs:=Y.evs++[ev] }
theorem zWg {W2:Wd}{L:List Nd}{n:Int}{x:Pt}{m:List Int}{ev:Evt}(g:GI (({ { W2 with evs:=W2.evs++[ev] } with L:=L }:Wd).setPart n x)):GI (wr W2 L n x m ev)∧(wr W2 L n x m ev).L=L∧(wr W2 L n x m ev).evs=W2.evs++[ev]∧(∀y,W2.K y=true→(wr W2 L n x m ev).K y=true)∧(wr W2 L n x m ev).fresh=W2.fresh∧(wr W2 L n x m ev).parts=W2.parts.set n.toNat x:=by
 obtain⟨f1,f2,f3,f4,f5,-⟩:=zMG m g;obtain⟨l1,l2,l3,l4,-⟩:=zEI m ({ W2 with L:=L }.setPart n x);have hev:=zJt m ({ W2 with L:=L }.setPart n x) (W2.evs++[ev]);have heq:(({ { W2 with evs:=W2.evs++[ev] } with L:=L }:Wd).setPart n x) = { ({ W2 with L:=L }:Wd).setPart n x with evs:=W2.evs++[ev] }:=rfl;rw[heq,hev]at f1 f2;unfold wr;dsimp only;refine⟨?_,l1,by rw[l2];rfl,fun y hy=>f2 y hy,l3,l4⟩;rw[l2];exact zSF f1
theorem zTz (g:GI W)(hf:W.fresh<4294960000)(hh:W.has o.a=true):GI (zBC W o).1∧Nx W (zBC W o).1:=by
 obtain⟨a1,a2,a3,a4,a5,a6,a7,a8⟩:=zDh g (by omega);have hpm:=zBu hh;unfold zBC;split
 · exact⟨g,Nx.refl _⟩
 dsimp only;generalize zAw W=q at a1 a2 a3 a4 a5 a6 a7 a8 ⊢;obtain⟨W1,ep,e1⟩:=q;dsimp only at a1 a2 a3 a4 a5 a6 a7 a8 ⊢;split
 · exact⟨a1,Nx.mk0 a7 a3 (fun _ h=>by rw[a4];exact h) (by dsimp only;omega)⟩
 rename_i h3;obtain⟨-,b2⟩:=a8 (by omega);rw[← a3]at b2;obtain⟨c1,c2,c3,c4,c5,c6,c7,c8⟩:=zDh a1 (by omega);have gp:=fun(h:(zAw W1).2.2=0) (e:Evt)=>zP9 a1 (by omega) h (e:=e)
 generalize zAw W1=q at c1 c2 c3 c4 c5 c6 c7 c8 gp ⊢;obtain⟨W2,pl,e2⟩:=q;dsimp only at c1 c2 c3 c4 c5 c6 c7 c8 gp ⊢;have gr2:Gr 2 W.L W2.L:=a7.trans c7 (by omega);have K2:∀y,W.K y=true→W2.K y=true:=fun y h=>by rw[c4,a4];exact h
 split
 · exact⟨c1,Nx.mk0 gr2 (c3.trans a3) K2 (by dsimp only;omega)⟩
 rename_i h4;obtain⟨d1,d2⟩:=c8 (by omega);have hpt:=g.part _ hpm;have s2:∀{x},Sn0 W.L W.evs x→Sn0 W2.L W2.evs x:=fun {x} h=>by
  rw[c3,a3];obtain⟨M,hM,-⟩:=gr2;rw[hM];exact h.more
 have se2:Sn0 W2.L W2.evs ep:=by
  rw[c3];obtain⟨M,hM,-⟩:=c7;rw[hM];exact Sn0.more (.inr b2)
 have ex:Ex zAB (Sn0 W2.L W2.evs) W2.L (zAE zAB W2.L (W.part o.a).s ep pl o.wa o.wc).1:=zFo se2 (s2 hpt.2.1) (s2 hpt.2.2.1);have hse:=fun h=>zM5 (lim:=zAB) (L:=W2.L) (e:=ep) (s:=(W.part o.a).s) (pl:=pl) (wa:=o.wa) (wc:=o.wc) h
 have hto:=fun h=>(zDN (lim:=zAB) (L:=W2.L) (e:=ep) (pl:=pl) (wa:=o.wa) (wc:=o.wc) hpt.1 h).ok
 obtain⟨n3,gr3⟩:=zT4 ex;split
 · exact⟨zMH c1 ex,Nx.mk0 (gr2.trans gr3 (Nat.le_refl _)) (c3.trans a3) K2 (by show W2.fresh≤_;omega)⟩
 rename_i h5;have h5:=Classical.not_not.1 h5;obtain⟨r1,r2,r3,r4,r5⟩:=hse h5;have hto:=hto h5;have s1:∀{x},Sn0 W.L W.evs x→Sn0 W1.L W1.evs x:=fun {x} h=>by
  rw[a3];obtain⟨M,hM,-⟩:=a7;rw[hM];exact h.more
 have own1:Sn0 W1.L W1.evs (zAE zAB W2.L (W.part o.a).s ep pl o.wa o.wc).2.1.h.e:=by
  rcases r2 with r2|r2<;>rw[r2]
  · exact s1 hpt.2.2.1
  · exact .inr b2
 have ne:∀{x},Sn0 W1.L W1.evs x→Sn0 W2.L (W1.evs++[⟨o.a,(W.part o.a).dev,(zAE zAB W2.L (W.part o.a).s ep pl o.wa o.wc).2.1.note⟩]) x:=fun {x} h=>by
  obtain⟨M,hM,-⟩:=c7;rw[hM];refine Sn0.more (h.evt fun _ hx=>?_);show(zAE zAB (W1.L++M) (W.part o.a).s ep pl o.wa o.wc).2.1.note.payload≠x;rw[← hM,r4,d1];have:=zAV.1 hx;omega
 have exE:Ex zAB (Sn0 W2.L (W1.evs++[⟨o.a,(W.part o.a).dev,(zAE zAB W2.L (W.part o.a).s ep pl o.wa o.wc).2.1.note⟩])) W2.L (zAE zAB W2.L (W.part o.a).s ep pl o.wa o.wc).1:=zFo (ne (.inr b2)) (ne (s1 hpt.2.1)) (ne (s1 hpt.2.2.1));have ge:=gp (by omega) ⟨o.a,(W.part o.a).dev,(zAE zAB W2.L (W.part o.a).s ep pl o.wa o.wc).2.1.note⟩ r4 (by show Sn0 _ _ (zAE zAB W2.L (W.part o.a).s ep pl o.wa o.wc).2.1.note.own;rw[r5];exact own1);generalize zAE zAB W2.L (W.part o.a).s ep pl o.wa o.wc=z at ex r1 r2 r3 r4 r5 hto gr3 own1 ne exE ge ⊢;have g4:=zMH ge exE;have up4:∀{x},Sn0 W1.L W1.evs x→Sn0 z.1 (W1.evs++[⟨o.a,(W.part o.a).dev,z.2.1.note⟩]) x:=fun {x} h=>by
  obtain⟨⟨M,hM,-⟩,-⟩:=exE;rw[hM];exact Sn0.more (ne h)
 have g5:=zKz g4 (n:=o.a) (x:=⟨z.2.1,(W.part o.a).box,(W.part o.a).dev⟩) ⟨hto,up4 (by rw[r1];exact s1 hpt.2.1),up4 own1,up4 (by show Sn0 _ _ z.2.1.note.own;rw[r5];exact own1)⟩;have hw:=zWg (W2:=W2) (L:=z.1) (n:=o.a) (x:=⟨z.2.1,(W.part o.a).box,(W.part o.a).dev⟩) (m:=z.2.2.1) (ev:=⟨o.a,(W.part o.a).dev,z.2.1.note⟩) (by rw[c3];exact g5);show GI (wr W2 z.1 o.a ⟨z.2.1,(W.part o.a).box,(W.part o.a).dev⟩ z.2.2.1 ⟨o.a,(W.part o.a).dev,z.2.1.note⟩)∧Nx W (wr W2 z.1 o.a ⟨z.2.1,(W.part o.a).box,(W.part o.a).dev⟩ z.2.2.1 ⟨o.a,(W.part o.a).dev,z.2.1.note⟩);obtain⟨w1,w2,w3,w4,w5,w6⟩:=hw;refine⟨w1,⟨2+n3,?_⟩,⟨[⟨o.a,(W.part o.a).dev,z.2.1.note⟩],?_,?_⟩,fun y hy=>w4 y (K2 y hy),?_⟩
 · rw[w2];exact gr2.trans gr3 (Nat.le_refl _)
 · rw[w3,c3,a3]
 · intro e he _
   rw[List.mem_singleton]at he;subst he;show(W.L.length:Int)≤z.2.1.note.payload;rw[r4,d1];have:=a7.len.1;omega
 · rw[w5];omega
theorem zVi (g:GI W)(hh:W.has o.a=true):GI (zHd W o).1∧Nx W (zHd W o).1:=by
 have hpt:=g.part _ (zBu hh);unfold zHd;split
 · exact⟨g,Nx.refl _⟩
 · split
   · exact⟨zKz g hpt,Nx.mk0 (Gr.refl 0 _) rfl (fun _ h=>h) (by show W.fresh≤_;omega)⟩
   · exact⟨g,Nx.refl _⟩
theorem zVj (g:GI W)(hh:W.has o.a=true):GI (zDb W o).1∧Nx W (zDb W o).1:=by
 have hpt:=g.part _ (zBu hh);unfold zDb;dsimp only;split
 · exact⟨g,Nx.refl _⟩
 · rename_i n l hb
   have ex:Ex zAB (Sn0 W.L W.evs) W.L (zAP zAB W.L (W.part o.a).s ((W.dev (W.part o.a).dev).getD dvZ) (W.msgs.getD n.toNat []) o.wa o.wc).1:=zQI;have hse:=zPO (lim:=zAB) (L:=W.L) (s:=(W.part o.a).s) (d:=(W.dev (W.part o.a).dev).getD dvZ) (msg:=W.msgs.getD n.toNat []) (wa:=o.wa) (wc:=o.wc);have hto:=(zFZ (lim:=zAB) (L:=W.L) (d:=(W.dev (W.part o.a).dev).getD dvZ) (msg:=W.msgs.getD n.toNat []) (wa:=o.wa) (wc:=o.wc) hpt.1).ok;obtain⟨n3,gr3⟩:=zT4 ex;generalize zAP zAB W.L (W.part o.a).s ((W.dev (W.part o.a).dev).getD dvZ) (W.msgs.getD n.toNat []) o.wa o.wc=z at ex hse hto gr3 ⊢;obtain⟨r1,r2,r3,r4⟩:=hse;have g2:=zMH g ex;have hpt2:=g2.part _ (zBu (W:={ W with L:=z.1 }) (o:=o) hh);have hpt3:Sn0 z.1 W.evs (W.part o.a).s.h.s∧Sn0 z.1 W.evs (W.part o.a).s.h.e∧Sn0 z.1 W.evs (W.part o.a).s.note.own:=hpt2.2;have g3:=zKz g2 (n:=o.a) (x:={ W.part o.a with box:=l,s:=z.2.1 }) ⟨hto,by rw[r1];exact hpt3.1,by rw[r2];exact hpt3.2.1,by
    show Sn0 z.1 W.evs z.2.1.note.own;rcases r3 with r3|r3<;>rw[r3]
    · exact hpt3.2.2
    · exact hpt3.2.1⟩
   split
   · exact⟨g3,Nx.mk0 gr3 rfl (fun _ h=>h) (by show W.fresh≤_;omega)⟩
   · rename_i h3
     have hs:=r4 (Classical.not_not.1 h3);refine⟨zWa g3 (e:=⟨o.a,(W.part o.a).dev,z.2.1.note⟩) hs,⟨⟨n3,gr3⟩,⟨[⟨o.a,(W.part o.a).dev,z.2.1.note⟩],rfl,?_⟩,fun _ h=>h,by show W.fresh≤_;omega⟩⟩;intro e he hse;rw[List.mem_singleton]at he;subst he;rw[show z.2.1.note.sent=false from hs]at hse;exact Bool.noConfusion hse
theorem zSI (g:GI W):GI (zBq W o).1∧Nx W (zBq W o).1:=by
 unfold zBq;split
 · exact⟨g,Nx.refl _⟩
 split
 · exact⟨g,Nx.refl _⟩
 split
 · exact⟨g,Nx.refl _⟩
 · obtain⟨a1,a2,a3,a4,a5,a6,-⟩:=zGX g (zB0 W o)
   exact⟨a1,Nx.mk0 (n:=0) (by rw[a4];exact Gr.refl _ _) a5 a2 (by rw[a6];omega)⟩
theorem zT0 (g:GI W)(hh:W.has o.a=true):GI (zB3 W o).1∧Nx W (zB3 W o).1:=by
 have hpt:=g.part _ (zBu hh);unfold zB3;split
 · exact⟨g,Nx.refl _⟩
 · dsimp only
   have ex:Ex zAB (Sn0 W.L W.evs) W.L (zAb zAB W.L (W.part o.a).s (decide (o.b=1))).1:=zNw;have hse:=zM6 (lim:=zAB) (L:=W.L) (s:=(W.part o.a).s) (send:=decide (o.b=1));obtain⟨n3,gr3⟩:=zT4 ex;generalize zAb zAB W.L (W.part o.a).s (decide (o.b=1))=z at ex hse gr3 ⊢;have g2:=zMH g ex;have hpt2:=g2.part _ (zBu (W:={ W with L:=z.1 }) (o:=o) hh);have hpt3:ShOk (W.part o.a).s.h∧Sn0 z.1 W.evs (W.part o.a).s.h.s∧Sn0 z.1 W.evs (W.part o.a).s.h.e∧Sn0 z.1 W.evs (W.part o.a).s.note.own:=hpt2;exact⟨zKz g2 (by rw[hse.1,hse.2];exact hpt3),Nx.mk0 gr3 rfl (fun _ h=>h) (by show W.fresh≤_;omega)⟩
end
inductive Kn (L:List Nd) (B:Int→Prop) (E:List Evt):Int→Prop
 | base {x:Int} (h:B x):Kn L B E x
 | free {x:Int} (h:(nd L x).k=0∨(nd L x).k=9∨(nd L x).k=2):Kn L B E x
 | own {x:Int} (h:(nd L x).k=1) (hn:4294967296≤(nd L x).n):Kn L B E x
 | pay {x:Int} {e:Evt} (he:e∈E) (hs:e.note.sent=true) (hx:x=e.note.payload) (h:Kn L B E e.note.key):Kn L B E x
 | dha {x:Int} (h:(nd L x).k=3) (ha:Kn L B E (nd L x).a):Kn L B E x
 | dhb {x:Int} (h:(nd L x).k=3) (hb:Kn L B E (nd L x).b):Kn L B E x
 | two {x:Int} (h:(nd L x).k≠0∧(nd L x).k≠1∧(nd L x).k≠2∧(nd L x).k≠3∧(nd L x).k≠7∧(nd L x).k≠9) (ha:Kn L B E (nd L x).a) (hb:Kn L B E (nd L x).b):Kn L B E x
 | shut {x:Int} (h:(nd L x).k=7) (ha:Kn L B E (nd L x).a) (hb:Kn L B E (nd L x).b) (hc:Kn L B E (nd L x).c):Kn L B E x
 | pub {x:Int} (h:(nd L x).k=7) (hc:(nd L (nd L x).c).k=2):Kn L B E x
 | sent {x:Int} {e:Evt} (h:(nd L x).k=7) (he:e∈E) (hs:e.note.sent=true) (hk:(nd L x).a=e.note.key) (hc:(nd L x).c=e.note.payload):Kn L B E x
structure Fin (L:List Nd)(B:Int→Prop)(E:List Evt):Prop where
 name:∀x,B x→(nd L x).k=1
 pay:∀e∈E,e.note.sent=true→(nd L e.note.payload).k=1∧(nd L e.note.payload).n<4294967296∧¬B e.note.payload
 one:∀e∈E,∀e'∈E,e.note.sent=true→e'.note.sent=true→e.note.payload=e'.note.payload→e.note.key=e'.note.key
section
variable {L:List Nd}{B:Int→Prop}{E:List Evt}{x:Int}
theorem zRv (f:Fin L B E)(h:Kn L B E x)(hk:(nd L x).k=4∨(nd L x).k=5∨(nd L x).k=6∨(nd L x).k=8):Kn L B E (nd L x).a∧Kn L B E (nd L x).b:=by
 cases h with
 | base h=>have:=f.name x h;omega
 | pay he hs hx h=>subst hx;have:=f.pay _ he hs;omega
 | two h ha hb=>exact⟨ha,hb⟩
 | _=>omega
theorem zWU (f:Fin L B E)(h:Kn L B E x)(hk:(nd L x).k=3):Kn L B E (nd L x).a∨Kn L B E (nd L x).b:=by
 cases h with
 | base h=>have:=f.name x h;omega
 | pay he hs hx h=>subst hx;have:=f.pay _ he hs;omega
 | dha h ha=>exact .inl ha
 | dhb h hb=>exact .inr hb
 | _=>omega
theorem zVd (f:Fin L B E)(h:Kn L B E x)(hk:(nd L x).k=7)(ha:Kn L B E (nd L x).a):Kn L B E (nd L x).c:=by
 cases h with
 | base h=>have:=f.name x h;omega
 | pay he hs hx h=>subst hx;have:=f.pay _ he hs;omega
 | shut h ha hb hc=>exact hc
 | pub h hc=>exact .free (.inr (.inr hc))
 | sent h he hs hk hc=>exact .pay he hs hc (hk ▸ ha)
 | _=>omega
theorem zRw (f:Fin L B E)(h:Kn L B E x)(hk:(nd L x).k=1):B x∨4294967296≤(nd L x).n∨∃e∈E,e.note.sent=true∧x=e.note.payload∧Kn L B E e.note.key:=by
 cases h with
 | base h=>exact .inl h
 | own h hn=>exact .inr (.inl hn)
 | pay he hs hx h=>exact .inr (.inr ⟨_,he,hs,hx,h⟩)
 | _=>omega
def Pf (Lf L:List Nd):Prop:=∃n,Gr n L Lf
theorem Pf.refl:Pf L L:=⟨0,Gr.refl _ _⟩
theorem Pf.back {Lf L':List Nd}{n:Nat}(h:Pf Lf L')(k:Gr n L L'):Pf Lf L:=by obtain⟨m,h⟩:=h;exact⟨n+m,k.trans h (Nat.le_refl _)⟩
theorem Pf.nd {Lf:List Nd}(h:Pf Lf L)(hx:has L x=true):nd Lf x=nd L x:=by obtain⟨n,h⟩:=h;exact h.nd hx
theorem Pf.has {Lf:List Nd}(h:Pf Lf L)(hx:has L x=true):Go.Proofs.YtcikdogkkgefcaaGreatDoor.has Lf x=true:=by obtain⟨n,h⟩:=h;exact h.has hx
variable {Ls:List Nd}{K:Int→Bool}
theorem zVe (p:Pf L Ls)(hK:∀y,K y=true→Kn L B E y):∀(f:Nat) (x:Int),canF f Ls K x=true→Kn L B E x:=by
 intro f;induction f with
 | zero=>intro x h;exact Bool.noConfusion h
 | succ f ih =>
   intro x h;unfold canF at h;by_cases hx:has Ls x=true
   · rw[if_pos hx,Bool.or_eq_true]at h
     have hn:=p.nd hx;rcases h with h|h
     · exact hK x h
     · unfold canR at h
       rw[← hn]at h;by_cases k0:(nd L x).k=0∨(nd L x).k=9
       · exact .free (by omega)
       rw[if_neg k0]at h;by_cases k1:(nd L x).k=1
       · rw[if_pos k1]at h
         exact .own k1 (of_decide_eq_true h)
       rw[if_neg k1]at h;by_cases k2:(nd L x).k=2
       · exact .free (by omega)
       rw[if_neg k2]at h;by_cases k3:(nd L x).k=3
       · rw[if_pos k3]at h
         simp only[Bool.or_eq_true,Bool.and_eq_true]at h;rcases h with ⟨h,-⟩|⟨h,-⟩
         · exact .dha k3 (ih _ h)
         · exact .dhb k3 (ih _ h)
       rw[if_neg k3]at h;by_cases k7:(nd L x).k=7
       · rw[if_pos k7]at h
         simp only[Bool.and_eq_true]at h;exact .shut k7 (ih _ h.1.1) (ih _ h.1.2) (ih _ h.2)
       rw[if_neg k7]at h;simp only[Bool.and_eq_true]at h;exact .two (by omega) (ih _ h.1) (ih _ h.2)
   · rw[if_neg hx]at h
     exact Bool.noConfusion h
theorem zUU (p:Pf L Ls)(hK:∀y,K y=true→Kn L B E y){x:Int}(h:can Ls K x=true):Kn L B E x:=zVe p hK _ _ h
theorem zWu (f:Fin L B E)(g:∃lim,Good lim Ls)(p:Pf L Ls)(hK:∀y,K y=true→has Ls y=true∧Kn L B E y){x:Int}(h:cl Ls K x=true):Kn L B E x:=by
 have hc:∀y,@decide (has Ls y=true∧Kn L B E y) (Classical.propDecidable _)=true↔has Ls y=true∧Kn L B E y:=fun y => @decide_eq_true_iff _ (Classical.propDecidable _)
 obtain⟨lim,g⟩:=g;refine((hc x).1 (zDY (C:=fun y => @decide (has Ls y=true∧Kn L B E y) (Classical.propDecidable _)) ⟨fun y hy hk=>?_,fun y hy hk hcan=>?_⟩ (fun y hy=>(hc y).2 (hK y hy)) h)).2
 · obtain⟨h1,h2⟩:=(hc y).1 hy
   have hn:=p.nd h1;rcases zCG g h1 with q|⟨a1,a2,a3,_⟩
   · omega
   · have:=zRv f h2 (by rw[hn];omega)
     rw[hn]at this;exact⟨(hc _).2 ⟨a1,this.1⟩,(hc _).2 ⟨a2,this.2⟩⟩
 · obtain⟨h1,h2⟩:=(hc y).1 hy
   have hn:=p.nd h1;rcases zCG g h1 with q|⟨a1,a2,a3,_⟩
   · omega
   · have hka:=zUU (B:=B) (E:=E) p (fun z hz=>((hc z).1 hz).2) hcan
     have:=zVd f h2 (by rw[hn];omega) (by rw[hn];exact hka);rw[hn]at this;exact(hc _).2 ⟨a3,this⟩
theorem zTh (f:Fin L B E)(g:∃lim,Good lim Ls)(p:Pf L Ls)(hK:∀y,K y=true→has Ls y=true∧Kn L B E y){z:Int}(hz:has Ls z=true)(hk:Kn L B E z){x:Int}(h:cl Ls (ins K z) x=true):Kn L B E x :=
 zWu f g p (fun y hy=>by
  rcases zCo.1 hy with h1|rfl
  · exact hK y h1
  · exact⟨hz,hk⟩) h
end
def NewK (L:List Nd)(K:Int→Bool)(n:Nd):Prop:=(n.k=1→4294967296≤n.n)∧(n.k=2→can L K n.a=true)
section
variable {lim:Nat}{L:List Nd}{K:Int→Bool}{heard made:List Int}
theorem zNX {n:Nd}(h:∀M,(mk lim L n).1=L++M→NewK (L++M) K n):∃M,(mk lim L n).1=L++M∧∀m∈M,NewK (L++M) K m:=by
 rcases zCx lim L n with ⟨h1,-⟩|⟨i,h1,-,hi⟩|⟨h1,-⟩|⟨h1,-⟩
 · exact⟨[],by rw[h1];simp,by simp⟩
 · exact⟨[],by rw[h1];simp,by simp⟩
 · exact⟨[],by rw[h1];simp,by simp⟩
 · refine⟨[n],by rw[h1],fun m hm=>?_⟩
   rw[List.mem_singleton]at hm;subst hm;exact h [m] (by rw[h1])
theorem zE9 {n:Nd}(h:n.k≠1∧n.k≠2):∃M,(mk lim L n).1=L++M∧∀m∈M,NewK (L++M) K m:=zNX fun _ _=>⟨fun k=>absurd k h.1,fun k=>absurd k h.2⟩
theorem zPH {x y:Int}:∃M,(share lim L x y).1=L++M∧∀m∈M,NewK (L++M) K m:=by
 unfold share;split
 · split
   · exact zE9 ⟨by simp,by simp⟩
   · split<;>exact zE9 ⟨by simp,by simp⟩
 · exact⟨[],by simp,by simp⟩
theorem zTY (g:Good lim L)(hh:∀x,K x=true→has L x=true){s:Stp}(hn:0≤s.n)(hm:zMe L K made):∃M,(oneS lim L heard made s).1=L++M∧∀m∈M,NewK (L++M) K m:=by
 have none:∃M,L=L++M∧∀m∈M,NewK (L++M) K m:=⟨[],by simp,by simp⟩
 unfold oneS;by_cases c0:s.op=0
 · rw[if_pos c0];split<;>exact none
 rw[if_neg c0];by_cases c1:s.op=1
 · rw[if_pos c1]
   split
   · exact zNX fun _ _=>⟨fun _=>by simp only;omega,fun k=>by simp at k⟩
   · exact none
 rw[if_neg c1];by_cases c2:s.op=2
 · rw[if_pos c2]
   split
   · rename_i h
     refine zNX fun M hM=>⟨fun k=>by simp at k,fun _=>?_⟩
     have hg:=zDd g ⟨2,0,mde made s.a,0,0⟩;rw[hM]at hg;exact zKB g hg hh (zBI hm (zCr h.2 (by omega)))
   · exact none
 rw[if_neg c2];by_cases c3:s.op=3
 · rw[if_pos c3]
   split
   · exact zPH
   · exact none
 rw[if_neg c3];by_cases c5:s.op=5∨s.op=8
 · rw[if_pos c5]
   split
   · exact zE9 ⟨by simp only;omega,by simp only;omega⟩
   · exact none
 rw[if_neg c5];by_cases c6:s.op=6
 · rw[if_pos c6]
   split
   · exact zE9 ⟨by simp,by simp⟩
   · exact none
 rw[if_neg c6];by_cases c7:s.op=7
 · rw[if_pos c7]
   split
   · exact zE9 ⟨by simp,by simp⟩
   · exact none
 rw[if_neg c7];by_cases c9:s.op=9
 · rw[if_pos c9]
   split
   · exact zE9 ⟨by simp,by simp⟩
   · exact none
 rw[if_neg c9];(repeat' split)<;>exact none
theorem NewK.more {M:List Nd}{n:Nd}(g:Good lim L)(g2:Good lim (L++M))(hh:∀x,K x=true→has L x=true)(h:NewK L K n):NewK (L++M) K n:=⟨h.1,fun k=>zKB g g2 hh (h.2 k)⟩
theorem zLn (h1:∀x∈heard,K x=true):∀(l:List Stp) (L:List Nd) (made:List Int) (i:Nat),(∀s∈l,0≤s.n)→Good lim L→(∀x,K x=true→has L x=true)→Closed L K→zMe L K made →
 Good lim (runS lim heard l L made i).1∧∃M,(runS lim heard l L made i).1=L++M∧∀m∈M,NewK (L++M) K m
 | [],L,made,i,hn,g,hh,hc,hm=>⟨g,[],by simp[runS],by simp⟩
 | s::l,L,made,i,hn,g,hh,hc,hm=>by
   obtain⟨M,hM,hnew⟩:=zTY (heard:=heard) g hh (hn s (List.mem_cons_self ..)) hm;have hg:Good lim (oneS lim L heard made s).1:=(zUR g (fun x hx=>hh x (h1 x hx)) (fun x hx=>zFv (hm x hx)) s).1;unfold runS;split
   · exact⟨g,[],by simp,by simp⟩
   · rename_i he
     have hcan:=zVB g hh hc (hn s (List.mem_cons_self ..)) h1 hm (Classical.not_not.1 he);rw[hM]at hg hcan ⊢;have hh2:∀x,K x=true→has (L++M) x=true:=fun x hx=>zBo (hh x hx)
     obtain⟨r1,N,r2,r3⟩:=zLn h1 l (L++M) (made++[(oneS lim L heard made s).2.1]) (i+1) (fun s hs=>hn s (List.mem_cons_of_mem _ hs)) hg hh2 (zJ7 g hg hh hc) (fun x hx=>by
      rcases List.mem_append.1 hx with k|k
      · exact zKB g hg hh (hm x k)
      · rw[List.mem_singleton]at k;subst k;exact hcan)
     refine⟨r1,M++N,by rw[r2,List.append_assoc],fun m hm2=>?_⟩;rw[r2]at r1;rw[← List.append_assoc];rcases List.mem_append.1 hm2 with k|k
     · exact(hnew m k).more hg r1 hh2
     · exact r3 m k
end
section
variable {W W' Wf:Wd}{o:WOp}
theorem zT1 (g:GI W)(hs:∀s∈o.steps,0≤s.n):GI (zCK W o).1∧Nx W (zCK W o).1:=by
 unfold zCK;split
 · exact⟨g,Nx.refl _⟩
 · dsimp only
   obtain⟨r1,M,r2,r3⟩:=zLn (lim:=zAB) (K:=W.K) (heard:=W.heard) g.heard o.steps W.L [] 0 hs g.good g.known g.closed (by intro x hx;simp at hx);have gr:=zJy (lim:=zAB) (heard:=W.heard) o.steps W.L [] 0;generalize runS zAB W.heard o.steps W.L [] 0=z at r1 r2 gr ⊢;have g2:GI { W with L:=z.1 }:=by
    rw[r2]at r1 ⊢;exact zNt g r1 fun n hn=>⟨fun k=>.inr ((r3 n hn).1 k),fun k=>.inr ((r3 n hn).2 k)⟩
   have nx:∀ms,Nx W { W with L:=z.1,msgs:=ms }:=fun ms=>Nx.mk0 gr rfl (fun _ h=>h) (by show W.fresh≤_;omega)
   split
   · exact⟨g2,nx W.msgs⟩
   · split
     · exact⟨g2,nx W.msgs⟩
     · exact⟨zSF g2,nx _⟩
theorem zVm (g:GI W)(hf:W.fresh<4294960000)(hs:∀s∈o.steps,0≤s.n):GI (doW W o).1∧Nx W (doW W o).1:=by
 unfold doW;split
 · exact⟨g,Nx.refl _⟩
 split
 · exact⟨g,Nx.refl _⟩
 rename_i h1 h2;have hh:ofW o.kind=true→W.has o.a=true:=fun h=>by
  cases k:W.has o.a with
  | true=>rfl
  | false=>exact absurd ⟨h,k⟩ h2
 split
 · exact zSH g hf
 split
 · exact zVk g
 split
 · exact zWZ g hf
 split
 · exact zVl g
 split
 · rename_i k;exact zTz g hf (hh (by unfold ofW;simp[k]))
 split
 · rename_i k;exact zVi g (hh (by unfold ofW;simp[k]))
 split
 · rename_i k;exact zVj g (hh (by unfold ofW;simp[k]))
 split
 · exact zT1 g hs
 split
 · exact zSI g
 · exact zT0 g (hh (by unfold ofW;simp;omega))
theorem Nx.back {W1 W2:Wd}(a:Nx W W1)(f:Pf W2.L W1.L∧(∀e∈W1.evs,e∈W2.evs)∧(∀y,W1.K y=true→W2.K y=true)∧(∀e∈W2.evs,e.note.sent=true→e∈W1.evs∨(W1.L.length:Int)≤e.note.payload)) :
 Pf W2.L W.L∧(∀e∈W.evs,e∈W2.evs)∧(∀y,W.K y=true→W2.K y=true)∧(∀e∈W2.evs,e.note.sent=true→e∈W.evs∨(W.L.length:Int)≤e.note.payload):=by
 obtain⟨f1,f2,f3,f4⟩:=f;obtain⟨n,gr⟩:=a.len;obtain⟨l,he,hl⟩:=a.evs;have:=gr.len.1;refine⟨f1.back gr,fun e h=>f2 e (by rw[he];exact List.mem_append_left _ h),fun y h=>f3 y (a.K y h),fun e h hs=>?_⟩;rcases f4 e h hs with k|k
 · rw[he]at k
   rcases List.mem_append.1 k with k|k
   · exact .inl k
   · exact .inr (hl e k hs)
 · exact .inr (by omega)
def To (Wf W:Wd):Prop:=Pf Wf.L W.L∧(∀e∈W.evs,e∈Wf.evs)∧(∀y,W.K y=true→Wf.K y=true)∧(∀e∈Wf.evs,e.note.sent=true→e∈W.evs∨(W.L.length:Int)≤e.note.payload)
theorem To.refl (W:Wd):To W W:=⟨Pf.refl,fun _ h=>h,fun _ h=>h,fun _ h _=>.inl h⟩
theorem zV9 {l:List WOp}:∀{W:Wd},zCm W l=some Wf→GI W→W.fresh+2*l.length<4294960000→(∀o∈l,∀s∈o.steps,0≤s.n)→GI Wf∧To Wf W ∧
 ∀(P:Wd→Prop),P W→(∀W o,GI W→P W→To Wf (doW W o).1→(∀s∈o.steps,0≤s.n)→W.fresh<4294960000→P (doW W o).1)→P Wf:=by
 induction l with
 | nil =>
   intro W h g hf hs;unfold zCm at h;simp only[Option.some.injEq]at h;subst h;exact⟨g,To.refl _,fun P h _=>h⟩
 | cons o l ih =>
   intro W h g hf hs;unfold zCm at h;split at h
   · simp at h
   · rw[List.length_cons]at hf
     obtain⟨g1,nx⟩:=zVm (o:=o) g (by omega) (hs o (List.mem_cons_self ..));obtain⟨r1,r2,r3⟩:=ih h g1 (by have:=nx.fresh;omega) (fun o ho=>hs o (List.mem_cons_of_mem _ ho));exact⟨r1,nx.back r2,fun P h0 hP=>r3 P (hP W o g h0 r2 (hs o (List.mem_cons_self ..)) (by omega)) hP⟩
theorem zUa:GI (wd0 [Nd.z]):=by
 have g:=zOp (lim:=zAB) (by decide) (by decide);have only:∀x,has [Nd.z] x=true→nd [Nd.z] x=Nd.z:=fun x hx=>by
  have:=zAV.1 hx;simp only[List.length_singleton]at this;obtain rfl:x=0:=by omega
  rfl
 refine⟨g,by simp[wd0],⟨by simp[wd0],by simp[wd0]⟩,by simp[wd0],by simp[wd0],fun x hx hk=>?_,fun x hx hk=>?_,by simp[wd0],by simp[wd0],by simp[wd0],by simp[wd0]⟩
 · rw[show(wd0 [Nd.z]).L=[Nd.z] from rfl,only x hx]at hk;simp[Nd.z]at hk
 · rw[show(wd0 [Nd.z]).L=[Nd.z] from rfl,only x hx]at hk;simp[Nd.z]at hk
end
end Go.Proofs.YtcikdogkkgefcaaGreatDoor
