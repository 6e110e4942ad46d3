/- SysG. -/
import Derived.Test.YtckbiimikeiejaaGreatDoorMaj
import Derived.Test.YtckbiimikeiejaaGreatDoorMal
set_option linter.unusedVariables false
set_option linter.unusedSimpArgs false
set_option maxHeartbeats 40000000
namespace Go.Proofs.YtckbiimikeiejaaGreatDoor
section
open Go.RowKit
open Rat
theorem Xf {l:List RowP} {prev src:List Int} (h:sysE l≠0):rhsE l prev src=sysE l∧rhsV l prev src=[]:=by
 have h1:rhsE l prev src=sysE l:=by unfold rhsE;rw [if_pos h]
 exact ⟨h1,by unfold rhsV;rw [h1,if_neg h]⟩
theorem A1z {l:List RowP} (h:sysE l=0):Vw l:=by
 unfold sysE at h;split at h
 ·assumption
 ·omega
theorem Ts:(Tryz.prog.info? 49).map (fun i=>(i.zero,i.size,i.bytes))=some (some (.agg #[.bool false,.slice none 0 0]),2,32):=by kernel_rfl
theorem Mi:NoD (Value.agg #[.bool false,.slice none 0 0]).cells.toList:=by
 intro u hu n
 simp [Value.cells] at hu
 rcases hu with rfl | rfl<;>simp
theorem L7 (b:Bool) (A:Option Addr) (n c:Nat):NoD (#[Value.bool b,.slice A n c]).toList:=by
 intro u hu n
 simp at hu
 rcases hu with rfl | rfl<;>simp
theorem Me (g j:Nat):(⟨g,0,none⟩:Addr).add j=⟨g,j,none⟩:=by
 unfold Addr.add
 by_cases h:j=0
 ·subst h;rfl
 ·simp [h]
theorem OwnQ.zrow {w:World} {base:Nat} {e:TypeId} {v:Value} {n:Nat} {xs:List Value} {L:List Int} (h:OwnQ w base e 2 v n xs) (hi:IntsR w xs L) (hn:n=L.length):ZRow w v L:=by
 subst hn
 have hc:∀ {g:Nat},v.ownBlock=some g→∀ j u,xs[j]? = some u→w.cell? ((⟨g,0,none⟩:Addr).add j)=some u:=fun hg=>h.1.cells hg
 rcases h.1.2 with ⟨rfl,hn0⟩ | ⟨g,cap,cur,rfl,_⟩
 ·exact ⟨none,0,by rw [hn0],fun h=>by omega⟩
 ·refine ⟨some ⟨g,0,none⟩,cap,rfl,fun _=>⟨g,rfl,fun i hil=>?_⟩⟩
  obtain ⟨A,m,c,e1,e2,e3⟩:=hi.at i hil
  refine ⟨A,m,c,?_,?_,e3⟩
  ·have:=hc (g:=g) rfl _ _ e1;rwa [Me] at this
  ·have:=hc (g:=g) rfl _ _ e2;rwa [Me] at this
theorem Gt {a b c:World} {e:TypeId} {size n:Nat} {v:Value} {xs:List Value} (h:a.grownBy b none) (ho:OwnQ b a.heap.size e size v n xs) (k:b.grownBy c v.ownBlock):a.grownBy c none:=by
 rcases ho.1.2 with ⟨rfl,_⟩ | ⟨g,cap,cur,rfl,hb,_⟩
 ·exact Ae h k
 ·exact Aw h k hb
def A1p (k:Int) (l:List CellP) (x:List Int):Prop :=
 (∀ t,t<l.length→0≤(l.getD t Br).col∧(l.getD t Br).col<(x.length:Int)∧lim (l.getD t Br).z≤72∧(l.getD t Br).limbs.length≤72)∧(∀ t,t≤l.length→lim (accZ k l x t)≤1000)
theorem Nm {n:Int} {l:List CellP} (h:Dh n l) (t:Nat):∀ d:Nat,t+d<l.length→(l.getD t Br).col≤(l.getD (t+d) Br).col
 | 0,_=>Int.le_refl _
 | d+1,hd=>by
  have h1:=Nm h t d (by omega)
  have h2:=(h (t+(d+1)) hd).2.2.1 (by omega)
  rw [show t+(d+1)-1=t+d by omega] at h2
  omega
theorem CellRow.limbs {w:World} {v:Value} {l:List CellP} (h:CellRow w v l) {t:Nat} (ht:t<l.length):∀ x∈(l.getD t Br).limbs,x<4294967296:=by
 obtain ⟨A,c,rfl,_⟩:=h.ctor
 obtain ⟨_,_,_,_,_,_,_,_,_,_,hn⟩:=h.at ht
 exact hn.2
theorem Zv {w:World} {vh vs vk:Value} {n:Nat} {r:RowP} {prev src:List Int} (hr:Pk n r) (hn:n≤48) (hp:prev.length=n)
  (hf:r.s.length=0∨(r.s.getD (r.s.length-1) Br).col<(src.length:Int)) (rh:CellRow w vh r.h) (rs:CellRow w vs r.s) (rk:Nums w vk r.klimbs)
  (ip:∀ i,I64 (prev.getD i 0)) (is:∀ i,I64 (src.getD i 0)):A1p r.k r.h prev∧A1p (accZ r.k r.h prev r.h.length) r.s src:=by
 obtain ⟨_,_,_,hk,_,hh,hs⟩:=hr
 have lk:lim r.k≤74+0:=by have:=Ij (neg:=r.kneg) rk.2;have h2:=hk.1;unfold RowP.k;omega
 have lh:∀ t,t<r.h.length→lim (r.h.getD t Br).z≤72:=fun t ht=>Se hh ht (rh.limbs ht)
 have ls:∀ t,t<r.s.length→lim (r.s.getD t Br).z≤72:=fun t ht=>Se hs ht (rs.limbs ht)
 have nh:=Pc hh (by omega)
 have ns:=Pc hs (by omega)
 have ah:=Nf (b:=0) lk lh ip
 have ah':lim (accZ r.k r.h prev r.h.length)≤74+48:=by have:=ah _ (Nat.le_refl _);omega
 have as':=Nf (b:=48) ah' ls is
 refine ⟨⟨fun t ht=>⟨(hh t ht).1,?_,lh t ht,(hh t ht).2.2.2.1.1⟩,fun t ht=>?_⟩,⟨fun t ht=>⟨(hs t ht).1,?_,ls t ht,(hs t ht).2.2.2.1.1⟩,fun t ht=>?_⟩⟩
 ·have:=(hh t ht).2.1;omega
 ·have:=ah t ht;omega
 ·have h1:=Nm hs t (r.s.length-1-t) (by omega)
  rw [show t+(r.s.length-1-t)=r.s.length-1 by omega] at h1
  rcases hf with hf | hf<;>omega
 ·have:=as' t ht;omega
set_option maxRecDepth 100000 in
theorem W9 (w:World) (v vp vs:Value) (l:List RowP) (prev src:List Int) (hl:SysRow w v l) (hp:IntRow w vp prev) (hs:IntRow w vs src) :
    Calls Tryz.prog 24 #[.agg #[v],vp,vs] w fun e w'=>∃ A c,e=.returned (.tuple #[.slice A (rhsV l prev src).length c,.int .i64 (rhsE l prev src)])∧ZRow w' (.slice A (rhsV l prev src).length c) (rhsV l prev src)∧w.grownBy w' none:=by
  obtain ⟨A,c,rfl,h1,h2⟩:=hl.ctor
  obtain ⟨Ap,cp,rfl,p1,p2⟩:=hp.ctor
  obtain ⟨As',cs',rfl,s1,s2⟩:=hs.ctor
  have gw:=Af w (.cells #[.slice A l.length c] 38) none
  have hB:=Blk.new w #[.slice A l.length c] 38
  have c0:(w.alloc (.cells #[.slice A l.length c] 38)).cell? ⟨w.heap.size,0,none⟩=some (.slice A l.length c):=hB.cell 0
  obtain ⟨E,hE⟩:∃ E,rhsE l prev src=E:=⟨_,rfl⟩
  obtain ⟨V,hV⟩:∃ V,rhsV l prev src=V:=⟨_,rfl⟩
  rw [hE,hV]
  have HE:=Ac hE
  have HV:=Ac hV
  have HL:=Ac (hl.more gw)
  have HPR:=Ac (hp.more gw)
  have HSR:=Ac (hs.more gw)
  have HB:=Ac hB
  have HC:=Ac (Ix (w.alloc (.cells #[.slice A l.length c] 38)) (.slice A l.length c) l (hl.more gw))
  clear hE hV hl hp hs hB
  go_enter Tryz.func24,Tryz.ntmps24
  go_wp2_with fail
  generalize w.alloc (.cells #[.slice A l.length c] 38)=wa at *
  generalize w.heap.size=s at *
  refine HC.out.mono ?_
  rintro e w1 ⟨rfl,g1⟩
  by_cases hse:sysE l=0
  case neg =>
    have HF:=Ac (Xf (prev:=prev) (src:=src) hse)
    have hEE:E=sysE l:=by rw [←HE.out];exact HF.out.1
    have hVV:V=[]:=by rw [←HV.out];exact HF.out.2
    generalize sysE l=e0 at *
    have te:(e0==0)=false:=by rw [beq_eq_false_iff_ne];exact hse
    have HEE:=Ac hEE
    have HVV:=Ac hVV
    clear hse hEE hVV
    go_wp2_with fail
    go_ret2
    rw [HEE.out,HVV.out]
    exact ⟨none,0,rfl,⟨none,0,rfl,fun h=>by simp at h⟩,Ae gw g1⟩
  rw [hse]
  have HOK:=Ac (A1z hse)
  have c0:=Aj g1 c0 (by simp)
  have HL1:=Ac (HL.out.more g1)
  have HPR1:=Ac (HPR.out.more g1)
  have HSR1:=Ac (HSR.out.more g1)
  have HB1:=Ac (HB.out.more g1)
  have HG1:=Ac (Ae gw g1)
  have HSE:=Ac hse
  clear hse g1 gw HL HPR HSR HB HC
  by_cases hpl:prev.length=l.length
  case neg =>
    have tp:((prev.length:Int)==(l.length:Int))=false:=by rw [beq_eq_false_iff_ne];omega
    have tp':((prev.length:Int) != (l.length:Int))=true:=by rw [bne_iff_ne];omega
    have HEE:Hid (E=5∧V=[]):=Ac (by
      have:rhsE l prev src=5:=by unfold rhsE;rw [HSE.out,if_neg (by simp),if_pos hpl]
      exact ⟨by rw [←HE.out];exact this,by rw [←HV.out];unfold rhsV;rw [this];rfl⟩)
    clear hpl
    go_wp2_with fail
    go_ret2
    rw [HEE.out.1,HEE.out.2]
    exact ⟨none,0,rfl,⟨none,0,rfl,fun h=>by simp at h⟩,HG1.out⟩
  have tp:((prev.length:Int)==(l.length:Int))=true:=by rw [beq_iff_eq];omega
  have tp':((prev.length:Int) != (l.length:Int))=false:=by rw [bne_eq_false_iff_eq];omega
  have HPL:=Ac hpl
  clear hpl
  go_wp2_with fail
  go_loopw [34] (fun i wr=>∃ k:Nat,k≤l.length∧i=.int .i64 k∧w1.grownBy wr none∧Hid (∀ t,t<k→(l.getD t row0).s.length=0∨((l.getD t row0).s.getD ((l.getD t row0).s.length-1) Br).col<(src.length:Int))) (fun i _=>(l.length-intOf i).toNat)
  case atStart=>exact ⟨0,by omega,rfl,Al _ _,Ac (fun t ht=>by omega)⟩
  case round =>
    obtain ⟨k,hk,rfl,hg,hb⟩:=hrel
    by_cases hlt:k<l.length
    · obtain ⟨b,o,Am,nm,cm,Aa,ca,Ah,ch,As,cs,Ak,nk,ck,rfl,q0,q1,q2,q3,q4,q5,q6,rm,ra,rh,rs,rk⟩:=(HL1.out.more hg).at hlt
      generalize hx:l.getD k row0=r at *
      have HX:=Ac hx
      have ga:=Af wr (.cells #[.bool r.mneg,.slice Am nm cm,.slice Aa r.a.length ca,.slice Ah r.h.length ch,.slice As r.s.length cs,.bool r.kneg,.slice Ak nk ck] 52) none
      have hBX:=Blk.new wr #[.bool r.mneg,.slice Am nm cm,.slice Aa r.a.length ca,.slice Ah r.h.length ch,.slice As r.s.length cs,.bool r.kneg,.slice Ak nk ck] 52
      obtain ⟨m0,m1,m2,m3,m4,m5,m6⟩:=hBX.seven
      obtain ⟨_,_,_,rl1,rl2⟩:=rs.ctor
      by_cases hz:r.s.length=0
      · have tz:¬ (0:Int)<(r.s.length:Int):=by omega
        have tz2:¬ 0<r.s.length:=by omega
        have HZ:=Ac hz
        clear hz hx rm ra rh rs rk hBX
        go_wp2_with fail
        exact ⟨⟨k+1,by omega,by go_num,Ae hg ga,Ac (fun t ht=>by
          by_cases htk:t=k
          · subst htk;rw [HX.out];exact .inl HZ.out
          · exact hb.out t (by omega))⟩,by simp [intOf];omega⟩
      · obtain ⟨b2,o2,A',n',c',rfl,hI,u0,u1,u2,_⟩:=(rs.more ga).at (i:=r.s.length-1) (by omega)
        generalize hcc:(r.s.getD (r.s.length-1) Br).col=col at *
        have HCOL:=Ac hcc
        have HZ:=Ac hz
        have hll:r.s.length≤9223372036854775807:=by omega
        clear hz hx rm ra rh rk hBX hcc rs rl1 rl2
        generalize hln:r.s.length=len at *
        have HLN:=Ac hln
        have hz:=HZ.out
        have e1:(0:Int)<(len:Int):=by omega
        have e1':0<len:=by omega
        have e2:(len:Int)-1<(len:Int):=by omega
        have e3:(0:Int)≤(len:Int)-1:=by omega
        have e4:((len:Int)-1).toNat=len-1:=by omega
        have e5:IntKind.i64.wrap ((len:Int)-1)=(len:Int)-1:=IntWalk.i64_in _ (by omega)
        clear hz hln
        by_cases hcs:(src.length:Int)≤col
        · have HEE:Hid (E=5∧V=[]):=Ac (by
            have:rhsE l prev src=5:=by
              unfold rhsE
              rw [HSE.out,if_neg (by simp),if_neg (by rw [HPL.out];simp),if_pos]
              intro h
              rcases h k hlt with h | h
              · rw [HX.out,HLN.out] at h;exact HZ.out h
              · rw [HX.out,HLN.out,HCOL.out] at h;omega
            exact ⟨by rw [←HE.out];exact this,by rw [←HV.out];unfold rhsV;rw [this];rfl⟩)
          go_wp2_with fail
          go_ret2
          rw [HEE.out.1,HEE.out.2]
          exact ⟨none,0,rfl,⟨none,0,rfl,fun h=>by simp at h⟩,Ae HG1.out (Ae hg ga)⟩
        · have HCS:=Ac hcs
          go_wp2_with fail
          exact ⟨⟨k+1,by omega,by go_num,Ae hg ga,Ac (fun t ht=>by
            by_cases htk:t=k
            · subst htk;rw [HX.out,HLN.out,HCOL.out];exact .inr (by have:=HCS.out;omega)
            · exact hb.out t (by omega))⟩,by simp [intOf];omega⟩
    · obtain rfl:k=l.length:=by omega
      have HFIT:Hid (N2 l src.length):=Ac hb.out
      have HG2:=Ac (Ae HG1.out hg)
      have HPR2:=Ac (HPR1.out.more hg)
      have HSR2:=Ac (HSR1.out.more hg)
      have HL2:=Ac (HL1.out.more hg)
      have c0:=Aj hg c0 (by simp)
      have HE4:Hid ((prev.all onG&&src.all onG)=false→E=4∧V=[]):=Ac (fun hh=>by
        have:rhsE l prev src=4:=by unfold rhsE;rw [HSE.out,if_neg (by simp),if_neg (by rw [HPL.out];simp),if_neg (fun h=>h HFIT.out),hh,if_pos (by simp)]
        exact ⟨by rw [←HE.out];exact this,by rw [←HV.out];unfold rhsV;rw [this];rfl⟩)
      have HE5:Hid ((prev.all onG&&src.all onG)=true→E=(if ∀ i,i<l.length→lim ((Ha l prev src).getD i 0)≤72 then 0 else 13)):=Ac (fun hh=>by
        rw [←HE.out];unfold rhsE;rw [HSE.out,if_neg (by simp),if_neg (by rw [HPL.out];simp),if_neg (fun h=>h HFIT.out),hh,if_neg (by simp)])
      clear hb hk hlt hg
      obtain ⟨w2,rfl⟩:∃ w2:World,w2=wr:=⟨_,rfl⟩
      go_wp2_with fail
      refine (La w2 _ prev HPR2.out).mono ?_
      rintro e w' ⟨rfl,rfl⟩
      cases hgp:prev.all onG with
      | false =>
        have HEE:=Ac (HE4.out (by rw [hgp];rfl))
        clear hgp
        go_wp2_with fail
        go_ret2
        rw [HEE.out.1,HEE.out.2]
        exact ⟨none,0,rfl,⟨none,0,rfl,fun h=>by simp at h⟩,HG2.out⟩
      | true =>
        have HGP:=Ac hgp
        clear hgp
        go_wp2_with fail
        refine (La w2 _ src HSR2.out).mono ?_
        rintro e w' ⟨rfl,rfl⟩
        cases hgs:src.all onG with
        | false =>
          have HEE:=Ac (HE4.out (by rw [hgs,HGP.out];rfl))
          clear hgs
          go_wp2_with fail
          go_ret2
          rw [HEE.out.1,HEE.out.2]
          exact ⟨none,0,rfl,⟨none,0,rfl,fun h=>by simp at h⟩,HG2.out⟩
        | true =>
          have HEE:=Ac (HE5.out (by rw [hgs,HGP.out];rfl))
          clear hgs HE4 HE5 HSR1 HPR1 HL1 HB1 HG1
          go_wp2_with fail
          go_loopw [12,67] (fun bv i wr=>∃ k:Nat,k≤l.length∧i=.int .i64 k∧Hid (∃ xs,OwnQ wr w2.heap.size 49 2 bv k xs∧IntsR wr xs ((Ha l prev src).take k))∧w2.grownBy wr none∧Hid (∀ t,t<k→lim ((Ha l prev src).getD t 0)≤72)) (fun _ i _=>(l.length-intOf i).toNat)
          case atStart=>exact ⟨0,by omega,rfl,Ac ⟨[],OwnQ.nil _ _ _ _,rfl⟩,Al _ _,Ac (fun t ht=>by omega)⟩
          case round =>
            obtain ⟨k,hk,rfl,hown,hg,hb⟩:=hrel
            by_cases hlt:k<l.length
            · obtain ⟨b,o,Am,nm,cm,Aa,ca,Ah,ch,As,cs,Ak,nk,ck,rfl,q0,q1,q2,q3,q4,q5,q6,rm,ra,rh,rs,rk⟩:=(HL2.out.more hg).at hlt
              have hrok:=HOK.out.2 k hlt
              have hfit:=HFIT.out k hlt
              have hside:(Ha l prev src).getD k 0=A1o (l.getD k row0) prev src:=by unfold Ha;simp [List.getD,List.getElem?_eq_getElem hlt]
              generalize hx:l.getD k row0=r at *
              have ga:=Af wr (.cells #[.bool r.mneg,.slice Am nm cm,.slice Aa r.a.length ca,.slice Ah r.h.length ch,.slice As r.s.length cs,.bool r.kneg,.slice Ak nk ck] 52) none
              have hBX:=Blk.new wr #[.bool r.mneg,.slice Am nm cm,.slice Aa r.a.length ca,.slice Ah r.h.length ch,.slice As r.s.length cs,.bool r.kneg,.slice Ak nk ck] 52
              have HBX:=Ac hBX
              obtain ⟨m0,m1,m2,m3,m4,m5,m6⟩:=hBX.seven
              have HROK:=Ac hrok
              have HFT:=Ac hfit
              have HSD:=Ac hside
              have HRH:=Ac (rh.more ga)
              have HRS:=Ac (rs.more ga)
              have HRK:=Ac (rk.more ga)
              have HGB:=Ac (Ae hg ga)
              have HOWN:=Ac (show ∃ xs,OwnQ (wr.alloc (.cells #[.bool r.mneg,.slice Am nm cm,.slice Aa r.a.length ca,.slice Ah r.h.length ch,.slice As r.s.length cs,.bool r.kneg,.slice Ak nk ck] 52)) w2.heap.size 49 2 u12 k xs∧IntsR (wr.alloc (.cells #[.bool r.mneg,.slice Am nm cm,.slice Aa r.a.length ca,.slice Ah r.h.length ch,.slice As r.s.length cs,.bool r.kneg,.slice Ak nk ck] 52)) xs ((Ha l prev src).take k) from by
                obtain ⟨xs,h1,h2⟩:=hown.out
                exact ⟨xs,h1.more ga,h2.imp fun _ _ h=>h.more ga⟩)
              obtain ⟨hsum1,hsum2⟩:=Zv hrok HOK.out.1 HPL.out hfit rh rs rk HPR2.out.i64 HSR2.out.i64
              have HSUM1:=Ac hsum1
              have HSUM2:=Ac hsum2
              have HPRB:=Ac ((HPR2.out.more hg).more ga)
              have HSRB:=Ac ((HSR2.out.more hg).more ga)
              have hnk:=rk.form
              obtain ⟨_,_,hnk,_,_⟩:=hnk
              injection hnk with f1 f2 f3
              have hkl:r.klimbs.length≤1099511627776:=by have:=hrok.2.2.2.1.1;omega
              clear f1 f2 f3 hsum1 hsum2 hrok hfit hside rm ra rh rs rk hBX ga hown hx
              go_wp2_with fail
              generalize hwb:wr.alloc (.cells #[.bool r.mneg,.slice Am nm cm,.slice Aa r.a.length ca,.slice Ah r.h.length ch,.slice As r.s.length cs,.bool r.kneg,.slice Ak nk ck] 52)=wb at *
              generalize hsb:wr.heap.size=sb at *
              have HSB:Hid (sb<wb.heap.size):=Ac (by rw [←hwb,←hsb,World.size_alloc];omega)
              clear hwb hsb
              refine (Dn wb r.kneg _ r.klimbs HRK.out hkl).mono ?_
              rintro e w3 ⟨zb,rfl,hz3,hzb,hg3⟩
              have HZ3:=Ac hz3
              have HG3:=Ac hg3
              clear m0 m1 m2 m3 m4 m5 m6 hz3 q0 q1 q2 q3 q4 q5 q6
              obtain ⟨m0,m1,m2,m3,m4,m5,m6⟩:=(HBX.out.more hg3).seven
              clear hg3
              go_wp2_with fail
              go_loopw [77] (fun i wq=>∃ t:Nat,t≤r.h.length∧i=.int .i64 t∧wb.grownBy wq none∧Hid (IntB wq zb (accZ r.k r.h prev t))) (fun i _=>(r.h.length-intOf i).toNat)
              case atStart=>exact ⟨0,by omega,rfl,HG3.out,HZ3⟩
              case round =>
                obtain ⟨t,ht,rfl,hgq,hz⟩:=hrel
                by_cases htl:t<r.h.length
                · skip
                  have HTL:=Ac htl
                  obtain ⟨_,_,_,hl1,hl2⟩:=HRH.out.ctor
                  have HLEN:Hid (r.h.length≤9223372036854775807):=Ac (by omega)
                  clear hl1 hl2
                  have hcell:=HSUM1.out.1 t htl
                  have hacc:=HSUM1.out.2 t (by omega)
                  obtain ⟨bc,oc,A',n',c',rfl,hI,u0,u1,u2,hnc⟩:=(HRH.out.more hgq).at htl
                  have hstep:accZ (r.k) r.h prev (t+1)=accZ (r.k) r.h prev t+(r.h.getD t Br).z*prev.getD (r.h.getD t Br).col.toNat 0:=rfl
                  generalize hcc:r.h.getD t Br=cc at *
                  obtain ⟨col,neg,limbs⟩:=cc
                  simp only [CellP.z] at hcell hI u0 u1 u2 hnc hstep
                  obtain ⟨hc0,hc1,hc2,hc3⟩:=hcell
                  obtain ⟨bx,ox,rfl,hI3,ux⟩:=(HPRB.out.more hgq).at (i:=col.toNat) (by omega)
                  obtain ⟨_,_,he,_,ux0⟩:=HPRB.out.at (i:=col.toNat) (by omega)
                  injection he with he
                  injection he with he1 he2
                  subst he1
                  subst he2
                  have hbx:=Dp ux0
                  generalize hxv:prev.getD col.toNat 0=xv at *
                  generalize hac:accZ (r.k) r.h prev t=acc at *
                  have hlx:=Ii hI3.1 hI3.2
                  have hlm:=C9 (sg neg (val 4294967296 limbs)) xv
                  generalize hzc:sg neg (val 4294967296 limbs)=zc at *
                  have HSTEP:=Ac hstep
                  have HZC:=Ac hzc
                  clear hstep hcc hxv hac ux0
                  have gwc:=Af wr (.cells #[.int .i64 col,.bool neg,.slice A' n' c'] 55) none
                  have hBC:=Blk.new wr #[.int .i64 col,.bool neg,.slice A' n' c'] 55
                  have hsq:=hgq.size
                  have hzq:=hz.out.more gwc
                  have hnq:=hnc.more gwc
                  have hux:=Aj gwc ux (by simp)
                  have hszb:=hz.out.lt
                  have K1:∀ w',(wr.alloc (.cells #[.int .i64 col,.bool neg,.slice A' n' c'] 55)).grownBy w' (some zb)→w'.cell? ⟨wr.heap.size,0,none⟩=some (.int .i64 col)∧w'.cell? ⟨wr.heap.size,1,none⟩=some (.bool neg)∧w'.cell? ⟨wr.heap.size,2,none⟩=some (.slice A' n' c')∧w'.cell? ⟨bx,ox+col.toNat,none⟩=some (.int .i64 xv):=fun w' h=>⟨Aj h (hBC.cell 0) (by simp;omega),Aj h (hBC.cell 1) (by simp;omega),Aj h (hBC.cell 2) (by simp;omega),Aj h hux (by simp;omega)⟩
                  obtain ⟨k0,k1,k2,k3⟩:=K1 _ (Al _ _)
                  have HK:=Ac K1
                  have HG:=Ac (Ae hgq gwc)
                  clear K1 hBC hnc hux ux gwc hgq hz
                  go_wp2_with fail
                  generalize wr.alloc (.cells #[.int .i64 col,.bool neg,.slice A' n' c'] 55)=wc at *
                  generalize wr.heap.size=sq at *
                  go_region_held3 (fun w'=>w'.cell? ⟨sq,0,none⟩=some (.int .i64 col)∧w'.cell? ⟨sq,1,none⟩=some (.bool neg)∧w'.cell? ⟨sq,2,none⟩=some (.slice A' n' c')∧w'.cell? ⟨bx,ox+col.toNat,none⟩=some (.int .i64 xv)) (first | assumption | (refine HK.out _ ?_;(focus ((repeat (first | assumption | exact Al _ _ | exact Ai _ _ | exact Af _ _ _ | refine Ae ?_ (Af _ _ _) | refine Ae ?_ (Ai _ _) | refine Ae ?_ (by assumption)));done))))
                   (first
                   | (go_at_call 71;refine (Dn _ neg _ limbs (hnq.more (by (focus ((repeat (first | assumption | exact Al _ _ | exact Ai _ _ | exact Af _ _ _ | refine Ae ?_ (Af _ _ _) | refine Ae ?_ (Ai _ _) | refine Ae ?_ (by assumption)));done)))) (by omega)).mono ?_;rintro e w5 ⟨bb5,rfl,hi5,hb5,hg5⟩;rw [HZC.out] at hi5;have k5:=C0 (row:=some zb) hg5)
                   | (go_at_call 74;refine (C3 _ xv hI3.1 hI3.2).mono ?_;rintro e w6 ⟨bb6,rfl,hi6,hb6,hg6⟩;have k6:=C0 (row:=some zb) hg6)
                   | (go_at_call 73;refine (Ct _ _ bb5 0 bb6 0 0 _ _ (by first | exact (IntB.new' (w0:=wc) rfl _).more (by (focus ((repeat (first | assumption | exact Al _ _ | exact Ai _ _ | exact Af _ _ _ | refine Ae ?_ (Af _ _ _) | refine Ae ?_ (Ai _ _) | refine Ae ?_ (by assumption)));done))) | exact (IntB.new' (w0:=wc.drew) rfl _).more (by (focus ((repeat (first | assumption | exact Al _ _ | exact Ai _ _ | exact Af _ _ _ | refine Ae ?_ (Af _ _ _) | refine Ae ?_ (Ai _ _) | refine Ae ?_ (by assumption)));done))) | exact (IntB.new' (w0:=w5) rfl _).more (by (focus ((repeat (first | assumption | exact Al _ _ | exact Ai _ _ | exact Af _ _ _ | refine Ae ?_ (Af _ _ _) | refine Ae ?_ (Ai _ _) | refine Ae ?_ (by assumption)));done))) | exact (IntB.new' (w0:=w6) rfl _).more (by (focus ((repeat (first | assumption | exact Al _ _ | exact Ai _ _ | exact Af _ _ _ | refine Ae ?_ (Af _ _ _) | refine Ae ?_ (Ai _ _) | refine Ae ?_ (by assumption)));done)))) (hi5.at.more (by (focus ((repeat (first | assumption | exact Al _ _ | exact Ai _ _ | exact Af _ _ _ | refine Ae ?_ (Af _ _ _) | refine Ae ?_ (Ai _ _) | refine Ae ?_ (by assumption)));done)))) (hi6.at.more (by (focus ((repeat (first | assumption | exact Al _ _ | exact Ai _ _ | exact Af _ _ _ | refine Ae ?_ (Af _ _ _) | refine Ae ?_ (Ai _ _) | refine Ae ?_ (by assumption)));done)))) (by omega) (by omega)).mono ?_;rintro e w7 ⟨rfl,hi7,hg7⟩;have g7:=Aw (show wc.grownBy _ none by (focus ((repeat (first | assumption | exact Al _ _ | exact Ai _ _ | exact Af _ _ _ | refine Ae ?_ (Af _ _ _) | refine Ae ?_ (Ai _ _) | refine Ae ?_ (by assumption)));done))) hg7 (by first | exact Nat.le_refl _ | exact (show wc.grownBy w5 none by (focus ((repeat (first | assumption | exact Al _ _ | exact Ai _ _ | exact Af _ _ _ | refine Ae ?_ (Af _ _ _) | refine Ae ?_ (Ai _ _) | refine Ae ?_ (by assumption)));done))).size | exact (show wc.grownBy w6 none by (focus ((repeat (first | assumption | exact Al _ _ | exact Ai _ _ | exact Af _ _ _ | refine Ae ?_ (Af _ _ _) | refine Ae ?_ (Ai _ _) | refine Ae ?_ (by assumption)));done))).size);have k7:=C0 (row:=some zb) g7)
                   | (go_at_call 72;refine (Ge _ zb zb 0 _ 0 acc acc _ (hzq.more (by (focus ((repeat (first | assumption | exact Al _ _ | exact Ai _ _ | exact Af _ _ _ | refine Ae ?_ (Af _ _ _) | refine Ae ?_ (Ai _ _) | refine Ae ?_ (by assumption)));done)))) (hzq.at.more (by (focus ((repeat (first | assumption | exact Al _ _ | exact Ai _ _ | exact Af _ _ _ | refine Ae ?_ (Af _ _ _) | refine Ae ?_ (Ai _ _) | refine Ae ?_ (by assumption)));done)))) (hi7.at.more (by (focus ((repeat (first | assumption | exact Al _ _ | exact Ai _ _ | exact Af _ _ _ | refine Ae ?_ (Af _ _ _) | refine Ae ?_ (Ai _ _) | refine Ae ?_ (by assumption)));done)))) (by omega) (by omega)).mono ?_;rintro e w8 ⟨rfl,hi8,hg8⟩;have g8:wc.grownBy w8 (some zb):=Ae (by (focus ((repeat (first | assumption | exact Al _ _ | exact Ai _ _ | exact Af _ _ _ | refine Ae ?_ (Af _ _ _) | refine Ae ?_ (Ai _ _) | refine Ae ?_ (by assumption)));done))) hg8))
                  all_goals
                    first
                    | exact HK.out _ g8
                    | (try simp only [Exit.inBlock,Exit.then]
                       have hln:=HLEN.out
                       have htl2:=HTL.out
                       go_wp2_with fail
                       have hln:=HLEN.out
                       have htl2:=HTL.out
                       exact ⟨⟨t+1,HTL.out,by go_num,Aw HG.out g8 hzb,Ac (by rw [HSTEP.out];exact hi8)⟩,by simp [intOf];omega⟩)
                · obtain rfl:t=r.h.length:=by omega
                  have HGQ:=Ac hgq
                  clear ht htl
                  obtain ⟨m0,m1,m2,m3,m4,m5,m6⟩:=(HBX.out.more hgq).seven
                  clear hgq
                  obtain ⟨w4,rfl⟩:∃ w4:World,w4=wr:=⟨_,rfl⟩
                  go_wp2_with fail
                  go_loopw [99] (fun i wq=>∃ t:Nat,t≤r.s.length∧i=.int .i64 t∧wb.grownBy wq none∧Hid (IntB wq zb (accZ (accZ r.k r.h prev r.h.length) r.s src t))) (fun i _=>(r.s.length-intOf i).toNat)
                  case atStart=>exact ⟨0,by omega,rfl,HGQ.out,hz⟩
                  case round =>
                    clear hz HGQ m0 m1 m2 m3 m4 m5 m6
                    obtain ⟨t,ht,rfl,hgq,hz⟩:=hrel
                    by_cases htl:t<r.s.length
                    · skip
                      have HTL:=Ac htl
                      obtain ⟨_,_,_,hl1,hl2⟩:=HRS.out.ctor
                      have HLEN:Hid (r.s.length≤9223372036854775807):=Ac (by omega)
                      clear hl1 hl2
                      have hcell:=HSUM2.out.1 t htl
                      have hacc:=HSUM2.out.2 t (by omega)
                      obtain ⟨bc,oc,A',n',c',rfl,hI,u0,u1,u2,hnc⟩:=(HRS.out.more hgq).at htl
                      have hstep:accZ (accZ r.k r.h prev r.h.length) r.s src (t+1)=accZ (accZ r.k r.h prev r.h.length) r.s src t+(r.s.getD t Br).z*src.getD (r.s.getD t Br).col.toNat 0:=rfl
                      generalize hcc:r.s.getD t Br=cc at *
                      obtain ⟨col,neg,limbs⟩:=cc
                      simp only [CellP.z] at hcell hI u0 u1 u2 hnc hstep
                      obtain ⟨hc0,hc1,hc2,hc3⟩:=hcell
                      obtain ⟨bx,ox,rfl,hI3,ux⟩:=(HSRB.out.more hgq).at (i:=col.toNat) (by omega)
                      obtain ⟨_,_,he,_,ux0⟩:=HSRB.out.at (i:=col.toNat) (by omega)
                      injection he with he
                      injection he with he1 he2
                      subst he1
                      subst he2
                      have hbx:=Dp ux0
                      generalize hxv:src.getD col.toNat 0=xv at *
                      generalize hac:accZ (accZ r.k r.h prev r.h.length) r.s src t=acc at *
                      have hlx:=Ii hI3.1 hI3.2
                      have hlm:=C9 (sg neg (val 4294967296 limbs)) xv
                      generalize hzc:sg neg (val 4294967296 limbs)=zc at *
                      have HSTEP:=Ac hstep
                      have HZC:=Ac hzc
                      clear hstep hcc hxv hac ux0
                      have gwc:=Af wr (.cells #[.int .i64 col,.bool neg,.slice A' n' c'] 55) none
                      have hBC:=Blk.new wr #[.int .i64 col,.bool neg,.slice A' n' c'] 55
                      have hsq:=hgq.size
                      have hzq:=hz.out.more gwc
                      have hnq:=hnc.more gwc
                      have hux:=Aj gwc ux (by simp)
                      have hszb:=hz.out.lt
                      have K1:∀ w',(wr.alloc (.cells #[.int .i64 col,.bool neg,.slice A' n' c'] 55)).grownBy w' (some zb)→w'.cell? ⟨wr.heap.size,0,none⟩=some (.int .i64 col)∧w'.cell? ⟨wr.heap.size,1,none⟩=some (.bool neg)∧w'.cell? ⟨wr.heap.size,2,none⟩=some (.slice A' n' c')∧w'.cell? ⟨bx,ox+col.toNat,none⟩=some (.int .i64 xv):=fun w' h=>⟨Aj h (hBC.cell 0) (by simp;omega),Aj h (hBC.cell 1) (by simp;omega),Aj h (hBC.cell 2) (by simp;omega),Aj h hux (by simp;omega)⟩
                      obtain ⟨k0,k1,k2,k3⟩:=K1 _ (Al _ _)
                      have HK:=Ac K1
                      have HG:=Ac (Ae hgq gwc)
                      clear K1 hBC hnc hux ux gwc hgq hz
                      go_wp2_with fail
                      generalize wr.alloc (.cells #[.int .i64 col,.bool neg,.slice A' n' c'] 55)=wc at *
                      generalize wr.heap.size=sq at *
                      go_region_held3 (fun w'=>w'.cell? ⟨sq,0,none⟩=some (.int .i64 col)∧w'.cell? ⟨sq,1,none⟩=some (.bool neg)∧w'.cell? ⟨sq,2,none⟩=some (.slice A' n' c')∧w'.cell? ⟨bx,ox+col.toNat,none⟩=some (.int .i64 xv)) (first | assumption | (refine HK.out _ ?_;(focus ((repeat (first | assumption | exact Al _ _ | exact Ai _ _ | exact Af _ _ _ | refine Ae ?_ (Af _ _ _) | refine Ae ?_ (Ai _ _) | refine Ae ?_ (by assumption)));done))))
                       (first
                       | (go_at_call 71;refine (Dn _ neg _ limbs (hnq.more (by (focus ((repeat (first | assumption | exact Al _ _ | exact Ai _ _ | exact Af _ _ _ | refine Ae ?_ (Af _ _ _) | refine Ae ?_ (Ai _ _) | refine Ae ?_ (by assumption)));done)))) (by omega)).mono ?_;rintro e w5 ⟨bb5,rfl,hi5,hb5,hg5⟩;rw [HZC.out] at hi5;have k5:=C0 (row:=some zb) hg5)
                       | (go_at_call 74;refine (C3 _ xv hI3.1 hI3.2).mono ?_;rintro e w6 ⟨bb6,rfl,hi6,hb6,hg6⟩;have k6:=C0 (row:=some zb) hg6)
                       | (go_at_call 73;refine (Ct _ _ bb5 0 bb6 0 0 _ _ (by first | exact (IntB.new' (w0:=wc) rfl _).more (by (focus ((repeat (first | assumption | exact Al _ _ | exact Ai _ _ | exact Af _ _ _ | refine Ae ?_ (Af _ _ _) | refine Ae ?_ (Ai _ _) | refine Ae ?_ (by assumption)));done))) | exact (IntB.new' (w0:=wc.drew) rfl _).more (by (focus ((repeat (first | assumption | exact Al _ _ | exact Ai _ _ | exact Af _ _ _ | refine Ae ?_ (Af _ _ _) | refine Ae ?_ (Ai _ _) | refine Ae ?_ (by assumption)));done))) | exact (IntB.new' (w0:=w5) rfl _).more (by (focus ((repeat (first | assumption | exact Al _ _ | exact Ai _ _ | exact Af _ _ _ | refine Ae ?_ (Af _ _ _) | refine Ae ?_ (Ai _ _) | refine Ae ?_ (by assumption)));done))) | exact (IntB.new' (w0:=w6) rfl _).more (by (focus ((repeat (first | assumption | exact Al _ _ | exact Ai _ _ | exact Af _ _ _ | refine Ae ?_ (Af _ _ _) | refine Ae ?_ (Ai _ _) | refine Ae ?_ (by assumption)));done)))) (hi5.at.more (by (focus ((repeat (first | assumption | exact Al _ _ | exact Ai _ _ | exact Af _ _ _ | refine Ae ?_ (Af _ _ _) | refine Ae ?_ (Ai _ _) | refine Ae ?_ (by assumption)));done)))) (hi6.at.more (by (focus ((repeat (first | assumption | exact Al _ _ | exact Ai _ _ | exact Af _ _ _ | refine Ae ?_ (Af _ _ _) | refine Ae ?_ (Ai _ _) | refine Ae ?_ (by assumption)));done)))) (by omega) (by omega)).mono ?_;rintro e w7 ⟨rfl,hi7,hg7⟩;have g7:=Aw (show wc.grownBy _ none by (focus ((repeat (first | assumption | exact Al _ _ | exact Ai _ _ | exact Af _ _ _ | refine Ae ?_ (Af _ _ _) | refine Ae ?_ (Ai _ _) | refine Ae ?_ (by assumption)));done))) hg7 (by first | exact Nat.le_refl _ | exact (show wc.grownBy w5 none by (focus ((repeat (first | assumption | exact Al _ _ | exact Ai _ _ | exact Af _ _ _ | refine Ae ?_ (Af _ _ _) | refine Ae ?_ (Ai _ _) | refine Ae ?_ (by assumption)));done))).size | exact (show wc.grownBy w6 none by (focus ((repeat (first | assumption | exact Al _ _ | exact Ai _ _ | exact Af _ _ _ | refine Ae ?_ (Af _ _ _) | refine Ae ?_ (Ai _ _) | refine Ae ?_ (by assumption)));done))).size);have k7:=C0 (row:=some zb) g7)
                       | (go_at_call 72;refine (Ge _ zb zb 0 _ 0 acc acc _ (hzq.more (by (focus ((repeat (first | assumption | exact Al _ _ | exact Ai _ _ | exact Af _ _ _ | refine Ae ?_ (Af _ _ _) | refine Ae ?_ (Ai _ _) | refine Ae ?_ (by assumption)));done)))) (hzq.at.more (by (focus ((repeat (first | assumption | exact Al _ _ | exact Ai _ _ | exact Af _ _ _ | refine Ae ?_ (Af _ _ _) | refine Ae ?_ (Ai _ _) | refine Ae ?_ (by assumption)));done)))) (hi7.at.more (by (focus ((repeat (first | assumption | exact Al _ _ | exact Ai _ _ | exact Af _ _ _ | refine Ae ?_ (Af _ _ _) | refine Ae ?_ (Ai _ _) | refine Ae ?_ (by assumption)));done)))) (by omega) (by omega)).mono ?_;rintro e w8 ⟨rfl,hi8,hg8⟩;have g8:wc.grownBy w8 (some zb):=Ae (by (focus ((repeat (first | assumption | exact Al _ _ | exact Ai _ _ | exact Af _ _ _ | refine Ae ?_ (Af _ _ _) | refine Ae ?_ (Ai _ _) | refine Ae ?_ (by assumption)));done))) hg8))
                      all_goals
                        first
                        | exact HK.out _ g8
                        | (try simp only [Exit.inBlock,Exit.then]
                           have hln:=HLEN.out
                           have htl2:=HTL.out
                           go_wp2_with fail
                           have hln:=HLEN.out
                           have htl2:=HTL.out
                           exact ⟨⟨t+1,HTL.out,by go_num,Aw HG.out g8 hzb,Ac (by rw [HSTEP.out];exact hi8)⟩,by simp [intOf];omega⟩)
                    · obtain rfl:t=r.s.length:=by omega
                      go_wp2_with fail
                      refine (Qf wr zb 0 _ hz.out.at).mono ?_
                      rintro e w' ⟨rfl,rfl⟩
                      have HACC:Hid ((Ha l prev src).getD k 0=accZ (accZ r.k r.h prev r.h.length) r.s src r.s.length):=Ac HSD.out
                      generalize accZ (accZ r.k r.h prev r.h.length) r.s src r.s.length=zz at *
                      have HGW:=Ac (Ae HGB.out hgq)
                      have HLT:=Ac hlt
                      have HK48:=Ac HOK.out.1
                      by_cases h72:lim zz≤72
                      · have tg:¬ (72:Int)<(lim zz:Int):=by omega
                        have tg2:¬ 72<lim zz:=by omega
                        have H72:=Ac h72
                        have hzz:=hz.out.at
                        obtain ⟨xs,hown,hints⟩:=HOWN.out
                        have HO2:=Ac (hown.more hgq)
                        have HI2:=Ac (show IntsR wr xs ((Ha l prev src).take k) from hints.imp fun _ _ h=>h.more hgq)
                        have HB2:=Ac HGW.out.size
                        clear h72 hown hints hgq hz
                        go_wp2_with fail
                        refine (E6 wr zb 0 zz hzz (by omega)).mono ?_
                        rintro e w9 ⟨v9,rfl,hn9,hf9,hg9⟩
                        obtain ⟨A9,n9,c9,rfl⟩:=hn9.ctor
                        have HN9:=Ac hn9
                        have HG9:=Ac hg9
                        have HO9:=Ac (HO2.out.more hg9)
                        have hs9:=hg9.size
                        have hs2:=HB2.out
                        have hk48:=HK48.out
                        have hltk:=HLT.out
                        clear hn9 hf9 hg9
                        go_wp2_with (first
                          | (at_builtin;refine Cu w2.heap.size rfl (.tmp 121) (.tmp 124) 61 49 (.agg #[.bool false,.slice none 0 0]) 2 32 rfl Tryz.underlying61 Ts rfl (by omega) (by omega) u12 k xs #[.bool (decide (zz<0)),.slice A9 n9 c9] (by rfl) HO9.out (by rfl) (by rfl) (by simp [Value.oneCell']) (by omega) (by omega) (L7 _ _ _ _) Mi ?_;intro g cap w11 hown11 hg11;have H11:=Ac (And.intro hown11 hg11);clear hown11 hg11)
                          | fail)
                        have hkn:=HLT.out
                        have hkm:=HK48.out
                        refine ⟨⟨k+1,HLT.out,by go_num,Ac ⟨_,H11.out.1,?_⟩,?_,Ac ?_⟩,?_⟩
                        · have hk':k<(Ha l prev src).length:=by unfold Ha;simp;exact HLT.out
                          have hz1:=HACC.out
                          simp only [List.getD,List.getElem?_eq_getElem hk',Option.getD_some] at hz1
                          rw [List.take_add_one,List.getElem?_eq_getElem hk',hz1]
                          have hpl:∀ r,u12.ownBlock=some r→Dt (w9.alloc (.cells #[.bool (decide (zz<0)),.slice A9 n9 c9] 49)) r:=fun r h=>(HO9.out.more (Af _ _ _)).2 r h
                          exact (HI2.out.imp fun v ds h=>((h.more HG9.out).more (Af _ _ _)).row H11.out.2 hpl).snoc ((HN9.out.more (Af _ _ _)).row H11.out.2 hpl)
                        · exact Gt (Ae (Ae HGW.out HG9.out) (Af _ _ _)) (HO9.out.more (Af _ _ _)) H11.out.2
                        · intro t ht
                          by_cases htk:t=k
                          · subst htk;rw [HACC.out];exact H72.out
                          · exact hb.out t (by omega)
                        · simp [intOf];omega
                      · have tg:(72:Int)<(lim zz:Int):=by omega
                        have tg2:72<lim zz:=by omega
                        have HE13:Hid (E=13∧V=[]):=Ac (by
                          have:rhsE l prev src=13:=by
                            rw [HE.out,HEE.out,if_neg]
                            intro h
                            have:=h k HLT.out
                            rw [HACC.out] at this
                            omega
                          exact ⟨by rw [←HE.out];exact this,by rw [←HV.out];unfold rhsV;rw [this];rfl⟩)
                        clear h72
                        go_wp2_with fail
                        go_ret2
                        rw [HE13.out.1,HE13.out.2]
                        exact ⟨none,0,rfl,⟨none,0,rfl,fun h=>by simp at h⟩,Ae HG2.out HGW.out⟩
            · obtain rfl:k=l.length:=by omega
              have HE0:Hid (E=0∧V=Ha l prev src):=Ac (by
                have:E=0:=by rw [HEE.out,if_pos hb.out]
                refine ⟨this,?_⟩
                rw [←HV.out];unfold rhsV;rw [HE.out,this,if_pos rfl])
              obtain ⟨xs,hown,hints⟩:=hown.out
              have hsl:(Ha l prev src).length=l.length:=by unfold Ha;simp
              rw [List.take_of_length_le (by omega)] at hints
              have HZR:=Ac (hown.zrow hints hsl.symm)
              clear hown hints hsl hb
              go_wp2_with fail
              go_ret2
              rw [HE0.out.1,HE0.out.2]
              obtain ⟨A,c,e,hh⟩:=HZR.out
              exact ⟨A,c,by rw [e];rfl,⟨A,c,rfl,hh⟩,Ae HG2.out hg⟩
end
end Go.Proofs.YtckbiimikeiejaaGreatDoor
