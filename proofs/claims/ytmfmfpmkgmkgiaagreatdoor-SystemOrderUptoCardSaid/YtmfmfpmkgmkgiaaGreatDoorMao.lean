/- SysG RefD RefF RefG. -/
import Derived.Test.YtmfmfpmkgmkgiaaGreatDoorMan
import Derived.Test.YtmfmfpmkgmkgiaaGreatDoorMak
set_option linter.unusedVariables false
set_option linter.unusedSimpArgs false
set_option maxHeartbeats 40000000
namespace Go.Proofs.YtmfmfpmkgmkgiaaGreatDoor
section
open Go.RowKit
open Rat
theorem Xf {l:List RowP} {prev src:List Int} (h:sysE l≠0):rhsE l prev src=sysE l∧rhsV l prev src=[]:=by
 have h1:rhsE l prev src=sysE l:=by unfold rhsE;rw [if_pos h]
 exact ⟨h1,by unfold rhsV;rw [h1,if_neg h]⟩
theorem A1z {l:List RowP} (h:sysE l=0):Vw l:=by
 unfold sysE at h;split at h
 ·assumption
 ·omega
theorem Ts:(Tryz.prog.info? 49).map (fun i=>(i.zero,i.size,i.bytes))=some (some (.agg #[.bool false,.slice none 0 0]),2,32):=by kernel_rfl
theorem Mi:NoD (Value.agg #[.bool false,.slice none 0 0]).cells.toList:=by
 intro u hu n
 simp [Value.cells] at hu
 rcases hu with rfl | rfl<;>simp
theorem L7 (b:Bool) (A:Option Addr) (n c:Nat):NoD (#[Value.bool b,.slice A n c]).toList:=by
 intro u hu n
 simp at hu
 rcases hu with rfl | rfl<;>simp
theorem Me (g j:Nat):(⟨g,0,none⟩:Addr).add j=⟨g,j,none⟩:=by
 unfold Addr.add
 by_cases h:j=0
 ·subst h;rfl
 ·simp [h]
theorem OwnQ.zrow {w:World} {base:Nat} {e:TypeId} {v:Value} {n:Nat} {xs:List Value} {L:List Int} (h:OwnQ w base e 2 v n xs) (hi:IntsR w xs L) (hn:n=L.length):ZRow w v L:=by
 subst hn
 have hc:∀ {g:Nat},v.ownBlock=some g→∀ j u,xs[j]? = some u→w.cell? ((⟨g,0,none⟩:Addr).add j)=some u:=fun hg=>h.1.cells hg
 rcases h.1.2 with ⟨rfl,hn0⟩ | ⟨g,cap,cur,rfl,_⟩
 ·exact ⟨none,0,by rw [hn0],fun h=>by omega⟩
 ·refine ⟨some ⟨g,0,none⟩,cap,rfl,fun _=>⟨g,rfl,fun i hil=>?_⟩⟩
  obtain ⟨A,m,c,e1,e2,e3⟩:=hi.at i hil
  refine ⟨A,m,c,?_,?_,e3⟩
  ·have:=hc (g:=g) rfl _ _ e1;rwa [Me] at this
  ·have:=hc (g:=g) rfl _ _ e2;rwa [Me] at this
theorem Gt {a b c:World} {e:TypeId} {size n:Nat} {v:Value} {xs:List Value} (h:a.grownBy b none) (ho:OwnQ b a.heap.size e size v n xs) (k:b.grownBy c v.ownBlock):a.grownBy c none:=by
 rcases ho.1.2 with ⟨rfl,_⟩ | ⟨g,cap,cur,rfl,hb,_⟩
 ·exact Ae h k
 ·exact Aw h k hb
def A1p (k:Int) (l:List CellP) (x:List Int):Prop :=
 (∀ t,t<l.length→0≤(l.getD t Br).col∧(l.getD t Br).col<(x.length:Int)∧lim (l.getD t Br).z≤72∧(l.getD t Br).limbs.length≤72)∧(∀ t,t≤l.length→lim (accZ k l x t)≤1000)
theorem Nm {n:Int} {l:List CellP} (h:Dh n l) (t:Nat):∀ d:Nat,t+d<l.length→(l.getD t Br).col≤(l.getD (t+d) Br).col
 | 0,_=>Int.le_refl _
 | d+1,hd=>by
  have h1:=Nm h t d (by omega)
  have h2:=(h (t+(d+1)) hd).2.2.1 (by omega)
  rw [show t+(d+1)-1=t+d by omega] at h2
  omega
theorem CellRow.limbs {w:World} {v:Value} {l:List CellP} (h:CellRow w v l) {t:Nat} (ht:t<l.length):∀ x∈(l.getD t Br).limbs,x<4294967296:=by
 obtain ⟨A,c,rfl,_⟩:=h.ctor
 obtain ⟨_,_,_,_,_,_,_,_,_,_,hn⟩:=h.at ht
 exact hn.2
theorem Zv {w:World} {vh vs vk:Value} {n:Nat} {r:RowP} {prev src:List Int} (hr:Pk n r) (hn:n≤48) (hp:prev.length=n)
  (hf:r.s.length=0∨(r.s.getD (r.s.length-1) Br).col<(src.length:Int)) (rh:CellRow w vh r.h) (rs:CellRow w vs r.s) (rk:Nums w vk r.klimbs)
  (ip:∀ i,I64 (prev.getD i 0)) (is:∀ i,I64 (src.getD i 0)):A1p r.k r.h prev∧A1p (accZ r.k r.h prev r.h.length) r.s src:=by
 obtain ⟨_,_,_,hk,_,hh,hs⟩:=hr
 have lk:lim r.k≤74+0:=by have:=Ij (neg:=r.kneg) rk.2;have h2:=hk.1;unfold RowP.k;omega
 have lh:∀ t,t<r.h.length→lim (r.h.getD t Br).z≤72:=fun t ht=>Se hh ht (rh.limbs ht)
 have ls:∀ t,t<r.s.length→lim (r.s.getD t Br).z≤72:=fun t ht=>Se hs ht (rs.limbs ht)
 have nh:=Pc hh (by omega)
 have ns:=Pc hs (by omega)
 have ah:=Nf (b:=0) lk lh ip
 have ah':lim (accZ r.k r.h prev r.h.length)≤74+48:=by have:=ah _ (Nat.le_refl _);omega
 have as':=Nf (b:=48) ah' ls is
 refine ⟨⟨fun t ht=>⟨(hh t ht).1,?_,lh t ht,(hh t ht).2.2.2.1.1⟩,fun t ht=>?_⟩,⟨fun t ht=>⟨(hs t ht).1,?_,ls t ht,(hs t ht).2.2.2.1.1⟩,fun t ht=>?_⟩⟩
 ·have:=(hh t ht).2.1;omega
 ·have:=ah t ht;omega
 ·have h1:=Nm hs t (r.s.length-1-t) (by omega)
  rw [show t+(r.s.length-1-t)=r.s.length-1 by omega] at h1
  rcases hf with hf | hf<;>omega
 ·have:=as' t ht;omega
set_option maxRecDepth 100000 in
theorem W9 (w:World) (v vp vs:Value) (l:List RowP) (prev src:List Int) (hl:SysRow w v l) (hp:IntRow w vp prev) (hs:IntRow w vs src) :
    Calls Tryz.prog 21 #[.agg #[v],vp,vs] w fun e w'=>∃ A c,e=.returned (.tuple #[.slice A (rhsV l prev src).length c,.int .i64 (rhsE l prev src)])∧ZRow w' (.slice A (rhsV l prev src).length c) (rhsV l prev src)∧w.grownBy w' none:=by
  obtain ⟨A,c,rfl,h1,h2⟩:=hl.ctor
  obtain ⟨Ap,cp,rfl,p1,p2⟩:=hp.ctor
  obtain ⟨As',cs',rfl,s1,s2⟩:=hs.ctor
  have gw:=Af w (.cells #[.slice A l.length c] 38) none
  have hB:=Blk.new w #[.slice A l.length c] 38
  have c0:(w.alloc (.cells #[.slice A l.length c] 38)).cell? ⟨w.heap.size,0,none⟩=some (.slice A l.length c):=hB.cell 0
  obtain ⟨E,hE⟩:∃ E,rhsE l prev src=E:=⟨_,rfl⟩
  obtain ⟨V,hV⟩:∃ V,rhsV l prev src=V:=⟨_,rfl⟩
  rw [hE,hV]
  have HE:=Ac hE
  have HV:=Ac hV
  have HL:=Ac (hl.more gw)
  have HPR:=Ac (hp.more gw)
  have HSR:=Ac (hs.more gw)
  have HB:=Ac hB
  have HC:=Ac (Ix (w.alloc (.cells #[.slice A l.length c] 38)) (.slice A l.length c) l (hl.more gw))
  clear hE hV hl hp hs hB
  go_enter Tryz.func21,Tryz.ntmps21
  go_wp2_with fail
  generalize w.alloc (.cells #[.slice A l.length c] 38)=wa at *
  generalize w.heap.size=s at *
  refine HC.out.mono ?_
  rintro e w1 ⟨rfl,g1⟩
  by_cases hse:sysE l=0
  case neg =>
    have HF:=Ac (Xf (prev:=prev) (src:=src) hse)
    have hEE:E=sysE l:=by rw [←HE.out];exact HF.out.1
    have hVV:V=[]:=by rw [←HV.out];exact HF.out.2
    generalize sysE l=e0 at *
    have te:(e0==0)=false:=by rw [beq_eq_false_iff_ne];exact hse
    have HEE:=Ac hEE
    have HVV:=Ac hVV
    clear hse hEE hVV
    go_wp2_with fail
    go_ret2
    rw [HEE.out,HVV.out]
    exact ⟨none,0,rfl,⟨none,0,rfl,fun h=>by simp at h⟩,Ae gw g1⟩
  rw [hse]
  have HOK:=Ac (A1z hse)
  have c0:=Aj g1 c0 (by simp)
  have HL1:=Ac (HL.out.more g1)
  have HPR1:=Ac (HPR.out.more g1)
  have HSR1:=Ac (HSR.out.more g1)
  have HB1:=Ac (HB.out.more g1)
  have HG1:=Ac (Ae gw g1)
  have HSE:=Ac hse
  clear hse g1 gw HL HPR HSR HB HC
  by_cases hpl:prev.length=l.length
  case neg =>
    have tp:((prev.length:Int)==(l.length:Int))=false:=by rw [beq_eq_false_iff_ne];omega
    have tp':((prev.length:Int) != (l.length:Int))=true:=by rw [bne_iff_ne];omega
    have HEE:Hid (E=5∧V=[]):=Ac (by
      have:rhsE l prev src=5:=by unfold rhsE;rw [HSE.out,if_neg (by simp),if_pos hpl]
      exact ⟨by rw [←HE.out];exact this,by rw [←HV.out];unfold rhsV;rw [this];rfl⟩)
    clear hpl
    go_wp2_with fail
    go_ret2
    rw [HEE.out.1,HEE.out.2]
    exact ⟨none,0,rfl,⟨none,0,rfl,fun h=>by simp at h⟩,HG1.out⟩
  have tp:((prev.length:Int)==(l.length:Int))=true:=by rw [beq_iff_eq];omega
  have tp':((prev.length:Int) != (l.length:Int))=false:=by rw [bne_eq_false_iff_eq];omega
  have HPL:=Ac hpl
  clear hpl
  go_wp2_with fail
  go_loopw [34] (fun i wr=>∃ k:Nat,k≤l.length∧i=.int .i64 k∧w1.grownBy wr none∧Hid (∀ t,t<k→(l.getD t row0).s.length=0∨((l.getD t row0).s.getD ((l.getD t row0).s.length-1) Br).col<(src.length:Int))) (fun i _=>(l.length-intOf i).toNat)
  case atStart=>exact ⟨0,by omega,rfl,Al _ _,Ac (fun t ht=>by omega)⟩
  case round =>
    obtain ⟨k,hk,rfl,hg,hb⟩:=hrel
    by_cases hlt:k<l.length
    · obtain ⟨b,o,Am,nm,cm,Aa,ca,Ah,ch,As,cs,Ak,nk,ck,rfl,q0,q1,q2,q3,q4,q5,q6,rm,ra,rh,rs,rk⟩:=(HL1.out.more hg).at hlt
      generalize hx:l.getD k row0=r at *
      have HX:=Ac hx
      have ga:=Af wr (.cells #[.bool r.mneg,.slice Am nm cm,.slice Aa r.a.length ca,.slice Ah r.h.length ch,.slice As r.s.length cs,.bool r.kneg,.slice Ak nk ck] 52) none
      have hBX:=Blk.new wr #[.bool r.mneg,.slice Am nm cm,.slice Aa r.a.length ca,.slice Ah r.h.length ch,.slice As r.s.length cs,.bool r.kneg,.slice Ak nk ck] 52
      obtain ⟨m0,m1,m2,m3,m4,m5,m6⟩:=hBX.seven
      obtain ⟨_,_,_,rl1,rl2⟩:=rs.ctor
      by_cases hz:r.s.length=0
      · have tz:¬ (0:Int)<(r.s.length:Int):=by omega
        have tz2:¬ 0<r.s.length:=by omega
        have HZ:=Ac hz
        clear hz hx rm ra rh rs rk hBX
        go_wp2_with fail
        exact ⟨⟨k+1,by omega,by go_num,Ae hg ga,Ac (fun t ht=>by
          by_cases htk:t=k
          · subst htk;rw [HX.out];exact .inl HZ.out
          · exact hb.out t (by omega))⟩,by simp [intOf];omega⟩
      · obtain ⟨b2,o2,A',n',c',rfl,hI,u0,u1,u2,_⟩:=(rs.more ga).at (i:=r.s.length-1) (by omega)
        generalize hcc:(r.s.getD (r.s.length-1) Br).col=col at *
        have HCOL:=Ac hcc
        have HZ:=Ac hz
        have hll:r.s.length≤9223372036854775807:=by omega
        clear hz hx rm ra rh rk hBX hcc rs rl1 rl2
        generalize hln:r.s.length=len at *
        have HLN:=Ac hln
        have hz:=HZ.out
        have e1:(0:Int)<(len:Int):=by omega
        have e1':0<len:=by omega
        have e2:(len:Int)-1<(len:Int):=by omega
        have e3:(0:Int)≤(len:Int)-1:=by omega
        have e4:((len:Int)-1).toNat=len-1:=by omega
        have e5:IntKind.i64.wrap ((len:Int)-1)=(len:Int)-1:=IntWalk.i64_in _ (by omega)
        clear hz hln
        by_cases hcs:(src.length:Int)≤col
        · have HEE:Hid (E=5∧V=[]):=Ac (by
            have:rhsE l prev src=5:=by
              unfold rhsE
              rw [HSE.out,if_neg (by simp),if_neg (by rw [HPL.out];simp),if_pos]
              intro h
              rcases h k hlt with h | h
              · rw [HX.out,HLN.out] at h;exact HZ.out h
              · rw [HX.out,HLN.out,HCOL.out] at h;omega
            exact ⟨by rw [←HE.out];exact this,by rw [←HV.out];unfold rhsV;rw [this];rfl⟩)
          go_wp2_with fail
          go_ret2
          rw [HEE.out.1,HEE.out.2]
          exact ⟨none,0,rfl,⟨none,0,rfl,fun h=>by simp at h⟩,Ae HG1.out (Ae hg ga)⟩
        · have HCS:=Ac hcs
          go_wp2_with fail
          exact ⟨⟨k+1,by omega,by go_num,Ae hg ga,Ac (fun t ht=>by
            by_cases htk:t=k
            · subst htk;rw [HX.out,HLN.out,HCOL.out];exact .inr (by have:=HCS.out;omega)
            · exact hb.out t (by omega))⟩,by simp [intOf];omega⟩
    · obtain rfl:k=l.length:=by omega
      have HFIT:Hid (N2 l src.length):=Ac hb.out
      have HG2:=Ac (Ae HG1.out hg)
      have HPR2:=Ac (HPR1.out.more hg)
      have HSR2:=Ac (HSR1.out.more hg)
      have HL2:=Ac (HL1.out.more hg)
      have c0:=Aj hg c0 (by simp)
      have HE4:Hid ((prev.all onG&&src.all onG)=false→E=4∧V=[]):=Ac (fun hh=>by
        have:rhsE l prev src=4:=by unfold rhsE;rw [HSE.out,if_neg (by simp),if_neg (by rw [HPL.out];simp),if_neg (fun h=>h HFIT.out),hh,if_pos (by simp)]
        exact ⟨by rw [←HE.out];exact this,by rw [←HV.out];unfold rhsV;rw [this];rfl⟩)
      have HE5:Hid ((prev.all onG&&src.all onG)=true→E=(if ∀ i,i<l.length→lim ((Ha l prev src).getD i 0)≤72 then 0 else 13)):=Ac (fun hh=>by
        rw [←HE.out];unfold rhsE;rw [HSE.out,if_neg (by simp),if_neg (by rw [HPL.out];simp),if_neg (fun h=>h HFIT.out),hh,if_neg (by simp)])
      clear hb hk hlt hg
      obtain ⟨w2,rfl⟩:∃ w2:World,w2=wr:=⟨_,rfl⟩
      go_wp2_with fail
      refine (La w2 _ prev HPR2.out).mono ?_
      rintro e w' ⟨rfl,rfl⟩
      cases hgp:prev.all onG with
      | false =>
        have HEE:=Ac (HE4.out (by rw [hgp];rfl))
        clear hgp
        go_wp2_with fail
        go_ret2
        rw [HEE.out.1,HEE.out.2]
        exact ⟨none,0,rfl,⟨none,0,rfl,fun h=>by simp at h⟩,HG2.out⟩
      | true =>
        have HGP:=Ac hgp
        clear hgp
        go_wp2_with fail
        refine (La w2 _ src HSR2.out).mono ?_
        rintro e w' ⟨rfl,rfl⟩
        cases hgs:src.all onG with
        | false =>
          have HEE:=Ac (HE4.out (by rw [hgs,HGP.out];rfl))
          clear hgs
          go_wp2_with fail
          go_ret2
          rw [HEE.out.1,HEE.out.2]
          exact ⟨none,0,rfl,⟨none,0,rfl,fun h=>by simp at h⟩,HG2.out⟩
        | true =>
          have HEE:=Ac (HE5.out (by rw [hgs,HGP.out];rfl))
          clear hgs HE4 HE5 HSR1 HPR1 HL1 HB1 HG1
          go_wp2_with fail
          go_loopw [12,67] (fun bv i wr=>∃ k:Nat,k≤l.length∧i=.int .i64 k∧Hid (∃ xs,OwnQ wr w2.heap.size 49 2 bv k xs∧IntsR wr xs ((Ha l prev src).take k))∧w2.grownBy wr none∧Hid (∀ t,t<k→lim ((Ha l prev src).getD t 0)≤72)) (fun _ i _=>(l.length-intOf i).toNat)
          case atStart=>exact ⟨0,by omega,rfl,Ac ⟨[],OwnQ.nil _ _ _ _,rfl⟩,Al _ _,Ac (fun t ht=>by omega)⟩
          case round =>
            obtain ⟨k,hk,rfl,hown,hg,hb⟩:=hrel
            by_cases hlt:k<l.length
            · obtain ⟨b,o,Am,nm,cm,Aa,ca,Ah,ch,As,cs,Ak,nk,ck,rfl,q0,q1,q2,q3,q4,q5,q6,rm,ra,rh,rs,rk⟩:=(HL2.out.more hg).at hlt
              have hrok:=HOK.out.2 k hlt
              have hfit:=HFIT.out k hlt
              have hside:(Ha l prev src).getD k 0=A1o (l.getD k row0) prev src:=by unfold Ha;simp [List.getD,List.getElem?_eq_getElem hlt]
              generalize hx:l.getD k row0=r at *
              have ga:=Af wr (.cells #[.bool r.mneg,.slice Am nm cm,.slice Aa r.a.length ca,.slice Ah r.h.length ch,.slice As r.s.length cs,.bool r.kneg,.slice Ak nk ck] 52) none
              have hBX:=Blk.new wr #[.bool r.mneg,.slice Am nm cm,.slice Aa r.a.length ca,.slice Ah r.h.length ch,.slice As r.s.length cs,.bool r.kneg,.slice Ak nk ck] 52
              have HBX:=Ac hBX
              obtain ⟨m0,m1,m2,m3,m4,m5,m6⟩:=hBX.seven
              have HROK:=Ac hrok
              have HFT:=Ac hfit
              have HSD:=Ac hside
              have HRH:=Ac (rh.more ga)
              have HRS:=Ac (rs.more ga)
              have HRK:=Ac (rk.more ga)
              have HGB:=Ac (Ae hg ga)
              have HOWN:=Ac (show ∃ xs,OwnQ (wr.alloc (.cells #[.bool r.mneg,.slice Am nm cm,.slice Aa r.a.length ca,.slice Ah r.h.length ch,.slice As r.s.length cs,.bool r.kneg,.slice Ak nk ck] 52)) w2.heap.size 49 2 u12 k xs∧IntsR (wr.alloc (.cells #[.bool r.mneg,.slice Am nm cm,.slice Aa r.a.length ca,.slice Ah r.h.length ch,.slice As r.s.length cs,.bool r.kneg,.slice Ak nk ck] 52)) xs ((Ha l prev src).take k) from by
                obtain ⟨xs,h1,h2⟩:=hown.out
                exact ⟨xs,h1.more ga,h2.imp fun _ _ h=>h.more ga⟩)
              obtain ⟨hsum1,hsum2⟩:=Zv hrok HOK.out.1 HPL.out hfit rh rs rk HPR2.out.i64 HSR2.out.i64
              have HSUM1:=Ac hsum1
              have HSUM2:=Ac hsum2
              have HPRB:=Ac ((HPR2.out.more hg).more ga)
              have HSRB:=Ac ((HSR2.out.more hg).more ga)
              have hnk:=rk.form
              obtain ⟨_,_,hnk,_,_⟩:=hnk
              injection hnk with f1 f2 f3
              have hkl:r.klimbs.length≤1099511627776:=by have:=hrok.2.2.2.1.1;omega
              clear f1 f2 f3 hsum1 hsum2 hrok hfit hside rm ra rh rs rk hBX ga hown hx
              go_wp2_with fail
              generalize hwb:wr.alloc (.cells #[.bool r.mneg,.slice Am nm cm,.slice Aa r.a.length ca,.slice Ah r.h.length ch,.slice As r.s.length cs,.bool r.kneg,.slice Ak nk ck] 52)=wb at *
              generalize hsb:wr.heap.size=sb at *
              have HSB:Hid (sb<wb.heap.size):=Ac (by rw [←hwb,←hsb,World.size_alloc];omega)
              clear hwb hsb
              refine (Dn wb r.kneg _ r.klimbs HRK.out hkl).mono ?_
              rintro e w3 ⟨zb,rfl,hz3,hzb,hg3⟩
              have HZ3:=Ac hz3
              have HG3:=Ac hg3
              clear m0 m1 m2 m3 m4 m5 m6 hz3 q0 q1 q2 q3 q4 q5 q6
              obtain ⟨m0,m1,m2,m3,m4,m5,m6⟩:=(HBX.out.more hg3).seven
              clear hg3
              go_wp2_with fail
              go_loopw [77] (fun i wq=>∃ t:Nat,t≤r.h.length∧i=.int .i64 t∧wb.grownBy wq none∧Hid (IntB wq zb (accZ r.k r.h prev t))) (fun i _=>(r.h.length-intOf i).toNat)
              case atStart=>exact ⟨0,by omega,rfl,HG3.out,HZ3⟩
              case round =>
                obtain ⟨t,ht,rfl,hgq,hz⟩:=hrel
                by_cases htl:t<r.h.length
                · skip
                  have HTL:=Ac htl
                  obtain ⟨_,_,_,hl1,hl2⟩:=HRH.out.ctor
                  have HLEN:Hid (r.h.length≤9223372036854775807):=Ac (by omega)
                  clear hl1 hl2
                  have hcell:=HSUM1.out.1 t htl
                  have hacc:=HSUM1.out.2 t (by omega)
                  obtain ⟨bc,oc,A',n',c',rfl,hI,u0,u1,u2,hnc⟩:=(HRH.out.more hgq).at htl
                  have hstep:accZ (r.k) r.h prev (t+1)=accZ (r.k) r.h prev t+(r.h.getD t Br).z*prev.getD (r.h.getD t Br).col.toNat 0:=rfl
                  generalize hcc:r.h.getD t Br=cc at *
                  obtain ⟨col,neg,limbs⟩:=cc
                  simp only [CellP.z] at hcell hI u0 u1 u2 hnc hstep
                  obtain ⟨hc0,hc1,hc2,hc3⟩:=hcell
                  obtain ⟨bx,ox,rfl,hI3,ux⟩:=(HPRB.out.more hgq).at (i:=col.toNat) (by omega)
                  obtain ⟨_,_,he,_,ux0⟩:=HPRB.out.at (i:=col.toNat) (by omega)
                  injection he with he
                  injection he with he1 he2
                  subst he1
                  subst he2
                  have hbx:=Dp ux0
                  generalize hxv:prev.getD col.toNat 0=xv at *
                  generalize hac:accZ (r.k) r.h prev t=acc at *
                  have hlx:=Ii hI3.1 hI3.2
                  have hlm:=C9 (sg neg (val 4294967296 limbs)) xv
                  generalize hzc:sg neg (val 4294967296 limbs)=zc at *
                  have HSTEP:=Ac hstep
                  have HZC:=Ac hzc
                  clear hstep hcc hxv hac ux0
                  have gwc:=Af wr (.cells #[.int .i64 col,.bool neg,.slice A' n' c'] 55) none
                  have hBC:=Blk.new wr #[.int .i64 col,.bool neg,.slice A' n' c'] 55
                  have hsq:=hgq.size
                  have hzq:=hz.out.more gwc
                  have hnq:=hnc.more gwc
                  have hux:=Aj gwc ux (by simp)
                  have hszb:=hz.out.lt
                  have K1:∀ w',(wr.alloc (.cells #[.int .i64 col,.bool neg,.slice A' n' c'] 55)).grownBy w' (some zb)→w'.cell? ⟨wr.heap.size,0,none⟩=some (.int .i64 col)∧w'.cell? ⟨wr.heap.size,1,none⟩=some (.bool neg)∧w'.cell? ⟨wr.heap.size,2,none⟩=some (.slice A' n' c')∧w'.cell? ⟨bx,ox+col.toNat,none⟩=some (.int .i64 xv):=fun w' h=>⟨Aj h (hBC.cell 0) (by simp;omega),Aj h (hBC.cell 1) (by simp;omega),Aj h (hBC.cell 2) (by simp;omega),Aj h hux (by simp;omega)⟩
                  obtain ⟨k0,k1,k2,k3⟩:=K1 _ (Al _ _)
                  have HK:=Ac K1
                  have HG:=Ac (Ae hgq gwc)
                  clear K1 hBC hnc hux ux gwc hgq hz
                  go_wp2_with fail
                  generalize wr.alloc (.cells #[.int .i64 col,.bool neg,.slice A' n' c'] 55)=wc at *
                  generalize wr.heap.size=sq at *
                  go_region_held3 (fun w'=>w'.cell? ⟨sq,0,none⟩=some (.int .i64 col)∧w'.cell? ⟨sq,1,none⟩=some (.bool neg)∧w'.cell? ⟨sq,2,none⟩=some (.slice A' n' c')∧w'.cell? ⟨bx,ox+col.toNat,none⟩=some (.int .i64 xv)) (first | assumption | (refine HK.out _ ?_;(focus ((repeat (first | assumption | exact Al _ _ | exact Ai _ _ | exact Af _ _ _ | refine Ae ?_ (Af _ _ _) | refine Ae ?_ (Ai _ _) | refine Ae ?_ (by assumption)));done))))
                   (first
                   | (go_at_call 58;refine (Dn _ neg _ limbs (hnq.more (by (focus ((repeat (first | assumption | exact Al _ _ | exact Ai _ _ | exact Af _ _ _ | refine Ae ?_ (Af _ _ _) | refine Ae ?_ (Ai _ _) | refine Ae ?_ (by assumption)));done)))) (by omega)).mono ?_;rintro e w5 ⟨bb5,rfl,hi5,hb5,hg5⟩;rw [HZC.out] at hi5;have k5:=C0 (row:=some zb) hg5)
                   | (go_at_call 61;refine (C3 _ xv hI3.1 hI3.2).mono ?_;rintro e w6 ⟨bb6,rfl,hi6,hb6,hg6⟩;have k6:=C0 (row:=some zb) hg6)
                   | (go_at_call 60;refine (Ct _ _ bb5 0 bb6 0 0 _ _ (by first | exact (IntB.new' (w0:=wc) rfl _).more (by (focus ((repeat (first | assumption | exact Al _ _ | exact Ai _ _ | exact Af _ _ _ | refine Ae ?_ (Af _ _ _) | refine Ae ?_ (Ai _ _) | refine Ae ?_ (by assumption)));done))) | exact (IntB.new' (w0:=wc.drew) rfl _).more (by (focus ((repeat (first | assumption | exact Al _ _ | exact Ai _ _ | exact Af _ _ _ | refine Ae ?_ (Af _ _ _) | refine Ae ?_ (Ai _ _) | refine Ae ?_ (by assumption)));done))) | exact (IntB.new' (w0:=w5) rfl _).more (by (focus ((repeat (first | assumption | exact Al _ _ | exact Ai _ _ | exact Af _ _ _ | refine Ae ?_ (Af _ _ _) | refine Ae ?_ (Ai _ _) | refine Ae ?_ (by assumption)));done))) | exact (IntB.new' (w0:=w6) rfl _).more (by (focus ((repeat (first | assumption | exact Al _ _ | exact Ai _ _ | exact Af _ _ _ | refine Ae ?_ (Af _ _ _) | refine Ae ?_ (Ai _ _) | refine Ae ?_ (by assumption)));done)))) (hi5.at.more (by (focus ((repeat (first | assumption | exact Al _ _ | exact Ai _ _ | exact Af _ _ _ | refine Ae ?_ (Af _ _ _) | refine Ae ?_ (Ai _ _) | refine Ae ?_ (by assumption)));done)))) (hi6.at.more (by (focus ((repeat (first | assumption | exact Al _ _ | exact Ai _ _ | exact Af _ _ _ | refine Ae ?_ (Af _ _ _) | refine Ae ?_ (Ai _ _) | refine Ae ?_ (by assumption)));done)))) (by omega) (by omega)).mono ?_;rintro e w7 ⟨rfl,hi7,hg7⟩;have g7:=Aw (show wc.grownBy _ none by (focus ((repeat (first | assumption | exact Al _ _ | exact Ai _ _ | exact Af _ _ _ | refine Ae ?_ (Af _ _ _) | refine Ae ?_ (Ai _ _) | refine Ae ?_ (by assumption)));done))) hg7 (by first | exact Nat.le_refl _ | exact (show wc.grownBy w5 none by (focus ((repeat (first | assumption | exact Al _ _ | exact Ai _ _ | exact Af _ _ _ | refine Ae ?_ (Af _ _ _) | refine Ae ?_ (Ai _ _) | refine Ae ?_ (by assumption)));done))).size | exact (show wc.grownBy w6 none by (focus ((repeat (first | assumption | exact Al _ _ | exact Ai _ _ | exact Af _ _ _ | refine Ae ?_ (Af _ _ _) | refine Ae ?_ (Ai _ _) | refine Ae ?_ (by assumption)));done))).size);have k7:=C0 (row:=some zb) g7)
                   | (go_at_call 59;refine (Ge _ zb zb 0 _ 0 acc acc _ (hzq.more (by (focus ((repeat (first | assumption | exact Al _ _ | exact Ai _ _ | exact Af _ _ _ | refine Ae ?_ (Af _ _ _) | refine Ae ?_ (Ai _ _) | refine Ae ?_ (by assumption)));done)))) (hzq.at.more (by (focus ((repeat (first | assumption | exact Al _ _ | exact Ai _ _ | exact Af _ _ _ | refine Ae ?_ (Af _ _ _) | refine Ae ?_ (Ai _ _) | refine Ae ?_ (by assumption)));done)))) (hi7.at.more (by (focus ((repeat (first | assumption | exact Al _ _ | exact Ai _ _ | exact Af _ _ _ | refine Ae ?_ (Af _ _ _) | refine Ae ?_ (Ai _ _) | refine Ae ?_ (by assumption)));done)))) (by omega) (by omega)).mono ?_;rintro e w8 ⟨rfl,hi8,hg8⟩;have g8:wc.grownBy w8 (some zb):=Ae (by (focus ((repeat (first | assumption | exact Al _ _ | exact Ai _ _ | exact Af _ _ _ | refine Ae ?_ (Af _ _ _) | refine Ae ?_ (Ai _ _) | refine Ae ?_ (by assumption)));done))) hg8))
                  all_goals
                    first
                    | exact HK.out _ g8
                    | (try simp only [Exit.inBlock,Exit.then]
                       have hln:=HLEN.out
                       have htl2:=HTL.out
                       go_wp2_with fail
                       have hln:=HLEN.out
                       have htl2:=HTL.out
                       exact ⟨⟨t+1,HTL.out,by go_num,Aw HG.out g8 hzb,Ac (by rw [HSTEP.out];exact hi8)⟩,by simp [intOf];omega⟩)
                · obtain rfl:t=r.h.length:=by omega
                  have HGQ:=Ac hgq
                  clear ht htl
                  obtain ⟨m0,m1,m2,m3,m4,m5,m6⟩:=(HBX.out.more hgq).seven
                  clear hgq
                  obtain ⟨w4,rfl⟩:∃ w4:World,w4=wr:=⟨_,rfl⟩
                  go_wp2_with fail
                  go_loopw [99] (fun i wq=>∃ t:Nat,t≤r.s.length∧i=.int .i64 t∧wb.grownBy wq none∧Hid (IntB wq zb (accZ (accZ r.k r.h prev r.h.length) r.s src t))) (fun i _=>(r.s.length-intOf i).toNat)
                  case atStart=>exact ⟨0,by omega,rfl,HGQ.out,hz⟩
                  case round =>
                    clear hz HGQ m0 m1 m2 m3 m4 m5 m6
                    obtain ⟨t,ht,rfl,hgq,hz⟩:=hrel
                    by_cases htl:t<r.s.length
                    · skip
                      have HTL:=Ac htl
                      obtain ⟨_,_,_,hl1,hl2⟩:=HRS.out.ctor
                      have HLEN:Hid (r.s.length≤9223372036854775807):=Ac (by omega)
                      clear hl1 hl2
                      have hcell:=HSUM2.out.1 t htl
                      have hacc:=HSUM2.out.2 t (by omega)
                      obtain ⟨bc,oc,A',n',c',rfl,hI,u0,u1,u2,hnc⟩:=(HRS.out.more hgq).at htl
                      have hstep:accZ (accZ r.k r.h prev r.h.length) r.s src (t+1)=accZ (accZ r.k r.h prev r.h.length) r.s src t+(r.s.getD t Br).z*src.getD (r.s.getD t Br).col.toNat 0:=rfl
                      generalize hcc:r.s.getD t Br=cc at *
                      obtain ⟨col,neg,limbs⟩:=cc
                      simp only [CellP.z] at hcell hI u0 u1 u2 hnc hstep
                      obtain ⟨hc0,hc1,hc2,hc3⟩:=hcell
                      obtain ⟨bx,ox,rfl,hI3,ux⟩:=(HSRB.out.more hgq).at (i:=col.toNat) (by omega)
                      obtain ⟨_,_,he,_,ux0⟩:=HSRB.out.at (i:=col.toNat) (by omega)
                      injection he with he
                      injection he with he1 he2
                      subst he1
                      subst he2
                      have hbx:=Dp ux0
                      generalize hxv:src.getD col.toNat 0=xv at *
                      generalize hac:accZ (accZ r.k r.h prev r.h.length) r.s src t=acc at *
                      have hlx:=Ii hI3.1 hI3.2
                      have hlm:=C9 (sg neg (val 4294967296 limbs)) xv
                      generalize hzc:sg neg (val 4294967296 limbs)=zc at *
                      have HSTEP:=Ac hstep
                      have HZC:=Ac hzc
                      clear hstep hcc hxv hac ux0
                      have gwc:=Af wr (.cells #[.int .i64 col,.bool neg,.slice A' n' c'] 55) none
                      have hBC:=Blk.new wr #[.int .i64 col,.bool neg,.slice A' n' c'] 55
                      have hsq:=hgq.size
                      have hzq:=hz.out.more gwc
                      have hnq:=hnc.more gwc
                      have hux:=Aj gwc ux (by simp)
                      have hszb:=hz.out.lt
                      have K1:∀ w',(wr.alloc (.cells #[.int .i64 col,.bool neg,.slice A' n' c'] 55)).grownBy w' (some zb)→w'.cell? ⟨wr.heap.size,0,none⟩=some (.int .i64 col)∧w'.cell? ⟨wr.heap.size,1,none⟩=some (.bool neg)∧w'.cell? ⟨wr.heap.size,2,none⟩=some (.slice A' n' c')∧w'.cell? ⟨bx,ox+col.toNat,none⟩=some (.int .i64 xv):=fun w' h=>⟨Aj h (hBC.cell 0) (by simp;omega),Aj h (hBC.cell 1) (by simp;omega),Aj h (hBC.cell 2) (by simp;omega),Aj h hux (by simp;omega)⟩
                      obtain ⟨k0,k1,k2,k3⟩:=K1 _ (Al _ _)
                      have HK:=Ac K1
                      have HG:=Ac (Ae hgq gwc)
                      clear K1 hBC hnc hux ux gwc hgq hz
                      go_wp2_with fail
                      generalize wr.alloc (.cells #[.int .i64 col,.bool neg,.slice A' n' c'] 55)=wc at *
                      generalize wr.heap.size=sq at *
                      go_region_held3 (fun w'=>w'.cell? ⟨sq,0,none⟩=some (.int .i64 col)∧w'.cell? ⟨sq,1,none⟩=some (.bool neg)∧w'.cell? ⟨sq,2,none⟩=some (.slice A' n' c')∧w'.cell? ⟨bx,ox+col.toNat,none⟩=some (.int .i64 xv)) (first | assumption | (refine HK.out _ ?_;(focus ((repeat (first | assumption | exact Al _ _ | exact Ai _ _ | exact Af _ _ _ | refine Ae ?_ (Af _ _ _) | refine Ae ?_ (Ai _ _) | refine Ae ?_ (by assumption)));done))))
                       (first
                       | (go_at_call 58;refine (Dn _ neg _ limbs (hnq.more (by (focus ((repeat (first | assumption | exact Al _ _ | exact Ai _ _ | exact Af _ _ _ | refine Ae ?_ (Af _ _ _) | refine Ae ?_ (Ai _ _) | refine Ae ?_ (by assumption)));done)))) (by omega)).mono ?_;rintro e w5 ⟨bb5,rfl,hi5,hb5,hg5⟩;rw [HZC.out] at hi5;have k5:=C0 (row:=some zb) hg5)
                       | (go_at_call 61;refine (C3 _ xv hI3.1 hI3.2).mono ?_;rintro e w6 ⟨bb6,rfl,hi6,hb6,hg6⟩;have k6:=C0 (row:=some zb) hg6)
                       | (go_at_call 60;refine (Ct _ _ bb5 0 bb6 0 0 _ _ (by first | exact (IntB.new' (w0:=wc) rfl _).more (by (focus ((repeat (first | assumption | exact Al _ _ | exact Ai _ _ | exact Af _ _ _ | refine Ae ?_ (Af _ _ _) | refine Ae ?_ (Ai _ _) | refine Ae ?_ (by assumption)));done))) | exact (IntB.new' (w0:=wc.drew) rfl _).more (by (focus ((repeat (first | assumption | exact Al _ _ | exact Ai _ _ | exact Af _ _ _ | refine Ae ?_ (Af _ _ _) | refine Ae ?_ (Ai _ _) | refine Ae ?_ (by assumption)));done))) | exact (IntB.new' (w0:=w5) rfl _).more (by (focus ((repeat (first | assumption | exact Al _ _ | exact Ai _ _ | exact Af _ _ _ | refine Ae ?_ (Af _ _ _) | refine Ae ?_ (Ai _ _) | refine Ae ?_ (by assumption)));done))) | exact (IntB.new' (w0:=w6) rfl _).more (by (focus ((repeat (first | assumption | exact Al _ _ | exact Ai _ _ | exact Af _ _ _ | refine Ae ?_ (Af _ _ _) | refine Ae ?_ (Ai _ _) | refine Ae ?_ (by assumption)));done)))) (hi5.at.more (by (focus ((repeat (first | assumption | exact Al _ _ | exact Ai _ _ | exact Af _ _ _ | refine Ae ?_ (Af _ _ _) | refine Ae ?_ (Ai _ _) | refine Ae ?_ (by assumption)));done)))) (hi6.at.more (by (focus ((repeat (first | assumption | exact Al _ _ | exact Ai _ _ | exact Af _ _ _ | refine Ae ?_ (Af _ _ _) | refine Ae ?_ (Ai _ _) | refine Ae ?_ (by assumption)));done)))) (by omega) (by omega)).mono ?_;rintro e w7 ⟨rfl,hi7,hg7⟩;have g7:=Aw (show wc.grownBy _ none by (focus ((repeat (first | assumption | exact Al _ _ | exact Ai _ _ | exact Af _ _ _ | refine Ae ?_ (Af _ _ _) | refine Ae ?_ (Ai _ _) | refine Ae ?_ (by assumption)));done))) hg7 (by first | exact Nat.le_refl _ | exact (show wc.grownBy w5 none by (focus ((repeat (first | assumption | exact Al _ _ | exact Ai _ _ | exact Af _ _ _ | refine Ae ?_ (Af _ _ _) | refine Ae ?_ (Ai _ _) | refine Ae ?_ (by assumption)));done))).size | exact (show wc.grownBy w6 none by (focus ((repeat (first | assumption | exact Al _ _ | exact Ai _ _ | exact Af _ _ _ | refine Ae ?_ (Af _ _ _) | refine Ae ?_ (Ai _ _) | refine Ae ?_ (by assumption)));done))).size);have k7:=C0 (row:=some zb) g7)
                       | (go_at_call 59;refine (Ge _ zb zb 0 _ 0 acc acc _ (hzq.more (by (focus ((repeat (first | assumption | exact Al _ _ | exact Ai _ _ | exact Af _ _ _ | refine Ae ?_ (Af _ _ _) | refine Ae ?_ (Ai _ _) | refine Ae ?_ (by assumption)));done)))) (hzq.at.more (by (focus ((repeat (first | assumption | exact Al _ _ | exact Ai _ _ | exact Af _ _ _ | refine Ae ?_ (Af _ _ _) | refine Ae ?_ (Ai _ _) | refine Ae ?_ (by assumption)));done)))) (hi7.at.more (by (focus ((repeat (first | assumption | exact Al _ _ | exact Ai _ _ | exact Af _ _ _ | refine Ae ?_ (Af _ _ _) | refine Ae ?_ (Ai _ _) | refine Ae ?_ (by assumption)));done)))) (by omega) (by omega)).mono ?_;rintro e w8 ⟨rfl,hi8,hg8⟩;have g8:wc.grownBy w8 (some zb):=Ae (by (focus ((repeat (first | assumption | exact Al _ _ | exact Ai _ _ | exact Af _ _ _ | refine Ae ?_ (Af _ _ _) | refine Ae ?_ (Ai _ _) | refine Ae ?_ (by assumption)));done))) hg8))
                      all_goals
                        first
                        | exact HK.out _ g8
                        | (try simp only [Exit.inBlock,Exit.then]
                           have hln:=HLEN.out
                           have htl2:=HTL.out
                           go_wp2_with fail
                           have hln:=HLEN.out
                           have htl2:=HTL.out
                           exact ⟨⟨t+1,HTL.out,by go_num,Aw HG.out g8 hzb,Ac (by rw [HSTEP.out];exact hi8)⟩,by simp [intOf];omega⟩)
                    · obtain rfl:t=r.s.length:=by omega
                      go_wp2_with fail
                      refine (Qf wr zb 0 _ hz.out.at).mono ?_
                      rintro e w' ⟨rfl,rfl⟩
                      have HACC:Hid ((Ha l prev src).getD k 0=accZ (accZ r.k r.h prev r.h.length) r.s src r.s.length):=Ac HSD.out
                      generalize accZ (accZ r.k r.h prev r.h.length) r.s src r.s.length=zz at *
                      have HGW:=Ac (Ae HGB.out hgq)
                      have HLT:=Ac hlt
                      have HK48:=Ac HOK.out.1
                      by_cases h72:lim zz≤72
                      · have tg:¬ (72:Int)<(lim zz:Int):=by omega
                        have tg2:¬ 72<lim zz:=by omega
                        have H72:=Ac h72
                        have hzz:=hz.out.at
                        obtain ⟨xs,hown,hints⟩:=HOWN.out
                        have HO2:=Ac (hown.more hgq)
                        have HI2:=Ac (show IntsR wr xs ((Ha l prev src).take k) from hints.imp fun _ _ h=>h.more hgq)
                        have HB2:=Ac HGW.out.size
                        clear h72 hown hints hgq hz
                        go_wp2_with fail
                        refine (E6 wr zb 0 zz hzz (by omega)).mono ?_
                        rintro e w9 ⟨v9,rfl,hn9,hf9,hg9⟩
                        obtain ⟨A9,n9,c9,rfl⟩:=hn9.ctor
                        have HN9:=Ac hn9
                        have HG9:=Ac hg9
                        have HO9:=Ac (HO2.out.more hg9)
                        have hs9:=hg9.size
                        have hs2:=HB2.out
                        have hk48:=HK48.out
                        have hltk:=HLT.out
                        clear hn9 hf9 hg9
                        go_wp2_with (first
                          | (at_builtin;refine Cu w2.heap.size rfl (.tmp 121) (.tmp 124) 61 49 (.agg #[.bool false,.slice none 0 0]) 2 32 rfl Tryz.underlying61 Ts rfl (by omega) (by omega) u12 k xs #[.bool (decide (zz<0)),.slice A9 n9 c9] (by rfl) HO9.out (by rfl) (by rfl) (by simp [Value.oneCell']) (by omega) (by omega) (L7 _ _ _ _) Mi ?_;intro g cap w11 hown11 hg11;have H11:=Ac (And.intro hown11 hg11);clear hown11 hg11)
                          | fail)
                        have hkn:=HLT.out
                        have hkm:=HK48.out
                        refine ⟨⟨k+1,HLT.out,by go_num,Ac ⟨_,H11.out.1,?_⟩,?_,Ac ?_⟩,?_⟩
                        · have hk':k<(Ha l prev src).length:=by unfold Ha;simp;exact HLT.out
                          have hz1:=HACC.out
                          simp only [List.getD,List.getElem?_eq_getElem hk',Option.getD_some] at hz1
                          rw [List.take_add_one,List.getElem?_eq_getElem hk',hz1]
                          have hpl:∀ r,u12.ownBlock=some r→Dt (w9.alloc (.cells #[.bool (decide (zz<0)),.slice A9 n9 c9] 49)) r:=fun r h=>(HO9.out.more (Af _ _ _)).2 r h
                          exact (HI2.out.imp fun v ds h=>((h.more HG9.out).more (Af _ _ _)).row H11.out.2 hpl).snoc ((HN9.out.more (Af _ _ _)).row H11.out.2 hpl)
                        · exact Gt (Ae (Ae HGW.out HG9.out) (Af _ _ _)) (HO9.out.more (Af _ _ _)) H11.out.2
                        · intro t ht
                          by_cases htk:t=k
                          · subst htk;rw [HACC.out];exact H72.out
                          · exact hb.out t (by omega)
                        · simp [intOf];omega
                      · have tg:(72:Int)<(lim zz:Int):=by omega
                        have tg2:72<lim zz:=by omega
                        have HE13:Hid (E=13∧V=[]):=Ac (by
                          have:rhsE l prev src=13:=by
                            rw [HE.out,HEE.out,if_neg]
                            intro h
                            have:=h k HLT.out
                            rw [HACC.out] at this
                            omega
                          exact ⟨by rw [←HE.out];exact this,by rw [←HV.out];unfold rhsV;rw [this];rfl⟩)
                        clear h72
                        go_wp2_with fail
                        go_ret2
                        rw [HE13.out.1,HE13.out.2]
                        exact ⟨none,0,rfl,⟨none,0,rfl,fun h=>by simp at h⟩,Ae HG2.out HGW.out⟩
            · obtain rfl:k=l.length:=by omega
              have HE0:Hid (E=0∧V=Ha l prev src):=Ac (by
                have:E=0:=by rw [HEE.out,if_pos hb.out]
                refine ⟨this,?_⟩
                rw [←HV.out];unfold rhsV;rw [HE.out,this,if_pos rfl])
              obtain ⟨xs,hown,hints⟩:=hown.out
              have hsl:(Ha l prev src).length=l.length:=by unfold Ha;simp
              rw [List.take_of_length_le (by omega)] at hints
              have HZR:=Ac (hown.zrow hints hsl.symm)
              clear hown hints hsl hb
              go_wp2_with fail
              go_ret2
              rw [HE0.out.1,HE0.out.2]
              obtain ⟨A,c,e,hh⟩:=HZR.out
              exact ⟨A,c,by rw [e];rfl,⟨A,c,rfl,hh⟩,Ae HG2.out hg⟩
end
section
open Go.RowKit Go.Maps
open Rat
theorem E8:NoD (Value.int .i64 0).cells.toList:=by
 intro u hu n
 simp [Value.cells] at hu
 subst hu
 simp
def i64s (ds:List Nat):List Value:=ds.map fun (d:Nat)=>.int .i64 (d:Int)
theorem OwnQ.d16 {w:World} {base:Nat} {e:TypeId} {v:Value} {n:Nat} {ds:List Nat} (h:OwnQ w base e 1 v n (i64s ds)) (hn:n=ds.length) (hd:∀ x∈ds,x<65536):D16 w v ds:=by
 subst hn
 have hc:∀ {g:Nat},v.ownBlock=some g→∀ j u,(i64s ds)[j]? = some u→w.cell? ((⟨g,0,none⟩:Addr).add j)=some u:=fun hg=>h.1.cells hg
 rcases h.1.2 with ⟨rfl,hn0⟩ | ⟨g,cap,cur,rfl,_,_,hnc,hcm,_⟩
 ·exact ⟨.inl ⟨rfl,List.eq_nil_of_length_eq_zero hn0⟩,hd⟩
 ·refine ⟨.inr ⟨g,0,cap,rfl,hnc,by simp only [maxLen] at hcm;omega,fun i hi=>?_⟩,hd⟩
  have:=hc (g:=g) rfl i (.int .i64 ((ds[i]?.getD 0:Nat):Int)) (by unfold i64s;rw [List.getElem?_map,List.getElem?_eq_getElem hi];rfl)
  rw [Me] at this
  rw [Nat.zero_add];exact this
end
section
open Go.RowKit
open Rat
theorem Oz (w:World) (b o c b' o' c':Nat) (xs ys:List Nat) (hl:Hid (xs.length=ys.length)) (h2:xs.length≤9223372036854775807)
  (hc:∀ i,i<xs.length→w.cell? ⟨b,o+i,none⟩=some (.int .i64 ((xs[i]?.getD 0:Nat):Int))) (hc':∀ i,i<xs.length→w.cell? ⟨b',o'+i,none⟩=some (.int .i64 ((ys[i]?.getD 0:Nat):Int))) :
  Calls Tryz.prog 182 #[.slice (some ⟨b,o,none⟩) xs.length c,.slice (some ⟨b',o',none⟩) xs.length c'] w fun e w'=>e=.returned (.int .i64 (cmpD xs ys xs.length))∧∃ n,w'=w.drewN n:=by
 go_enter Tryz.func182,Tryz.ntmps182
 go_wp2
 go_loopw [5] (fun i wr=>∃ k m:Nat,k≤xs.length∧i=.int .i64 ((k:Int)-1)∧wr=w.drewN m∧Hid (cmpD xs ys k=cmpD xs ys xs.length)) (fun i _=>(intOf i+1).toNat)
 case atStart=>exact ⟨_,0,Nat.le_refl _,rfl,rfl,rfl⟩
 case round =>
  obtain ⟨k,m,hk,rfl,rfl,ht⟩:=hrel
  by_cases hpos:0<k
  ·have g1:=hc (k-1) (by omega)
   have g2:=hc' (k-1) (by omega)
   have e1:(((k:Int)-1).toNat)=k-1:=by omega
   have HC:=Ac (Vi (xs:=xs) (ys:=ys) hpos)
   have HN:=Ac (Ql (xs:=xs) (ys:=ys) hpos)
   clear hc hc'
   generalize xs[k-1]?.getD 0=x at *
   generalize ys[k-1]?.getD 0=y at *
   by_cases hlt:x<y
   ·have HLT:=Ac hlt
    clear hlt
    have t1:(x:Int)<(y:Int):=by have:=HLT.out;omega
    go_wp2
    go_quiet (fail)
    go_wp2
    go_ret
    exact ⟨B9 (by rw [←ht.out,HN.out (by rw [bne_iff_ne];have:=HLT.out;omega),if_pos HLT.out]),_,by rw [World.drewN_drewN]⟩
   ·have HLT:=Ac hlt
    clear hlt
    by_cases hgt:y<x
    ·have HGT:=Ac hgt
     clear hgt
     have t1:¬ (x:Int)<(y:Int):=by have:=HLT.out;omega
     have t2:(y:Int)<(x:Int):=by have:=HGT.out;omega
     go_wp2
     go_quiet (fail)
     go_wp2
     go_quiet (fail)
     go_wp2
     go_ret
     exact ⟨B9 (by rw [←ht.out,HN.out (by rw [bne_iff_ne];have:=HGT.out;omega),if_neg HLT.out]),_,by rw [World.drewN_drewN,World.drewN_drewN]⟩
    ·have HGT:=Ac hgt
     clear hgt
     have t1:¬ (x:Int)<(y:Int):=by have:=HLT.out;omega
     have t2:¬ (y:Int)<(x:Int):=by have:=HGT.out;omega
     go_wp2
     go_quiet (fail)
     go_wp2
     go_quiet (fail)
     go_wp2
     exact ⟨⟨k-1,_,by omega,by go_num,by first | rfl | rw [World.drewN_drewN],Ac ((HC.out (by rw [bne_eq_false_iff_eq];have:=HLT.out;have:=HGT.out;omega)).trans ht.out)⟩,by simp [intOf];omega⟩
  ·go_wp2
   go_ret
   exact ⟨B9 (by rw [←ht.out];obtain rfl:k=0:=(by omega);rfl),m,rfl⟩
theorem J7 (w:World) (v1 v2:Value) (A A':Option Addr) (c c':Nat) (h1:v1=.slice A 0 c) (h2:v2=.slice A' 0 c') :
  Calls Tryz.prog 182 #[v1,v2] w fun e w'=>e=.returned (.int .i64 0)∧∃ n,w'=w.drewN n:=by
 subst h1 h2
 go_enter Tryz.func182,Tryz.ntmps182
 go_wp2
 go_loop [5] (fun i=>i=.int .i64 (-1)) (fun _=>0)
 case atStart=>rfl
 case round =>
  obtain rfl:=hrel
  go_wp2
  go_ret
  exact ⟨rfl,0,rfl⟩
theorem P2 (w:World) (A A':Option Addr) (n n' c c':Nat) (_hn:n≤9223372036854775807) (_hn':n'≤9223372036854775807) (h:¬ n=n') :
  Calls Tryz.prog 182 #[.slice A n c,.slice A' n' c'] w fun e w'=>e=.returned (.int .i64 (if n<n' then -1 else 1))∧∃ m,w'=w.drewN m:=by
 have t:(((n:Int)) != ((n':Int)))=true:=by rw [bne_iff_ne];omega
 have H:=Ac h
 clear h
 by_cases hl:n<n'
 all_goals
  rw [show (if n<n' then (-1:Int) else 1)=_ from by first | exact if_pos hl | exact if_neg hl]
  go_enter Tryz.func182,Tryz.ntmps182
  go_wp2
  go_ret
  exact ⟨rfl,0,rfl⟩
theorem Un (w:World) (v1 v2:Value) (xs ys:List Nat) (hx:D16 w v1 xs) (hy:D16 w v2 ys) :
  Calls Tryz.prog 182 #[v1,v2] w fun e w'=>e=.returned (.int .i64 (cmpL xs ys))∧∃ n,w'=w.drewN n:=by
 unfold cmpL
 by_cases hlen:xs.length=ys.length
 ·rw [if_pos hlen]
  rcases hx.1 with ⟨rfl,rfl⟩ | ⟨b,o,c,rfl,h1,h2,hc⟩
  ·obtain ⟨A',c',rfl,_⟩:=hy.ctor
   rw [←hlen]
   exact J7 w _ _ _ _ _ _ rfl rfl
  ·rcases hy.1 with ⟨rfl,rfl⟩ | ⟨b',o',c',rfl,h1',h2',hc'⟩
   ·simp only [List.length_nil] at hlen
    rw [hlen]
    exact J7 w _ _ _ _ _ _ rfl rfl
   ·rw [←hlen] at hc' ⊢
    exact Oz w b o c b' o' c' xs ys hlen (by omega) hc hc'
 ·rw [if_neg hlen]
  obtain ⟨A,c,rfl,hl1⟩:=hx.ctor
  obtain ⟨A',c',rfl,hl2⟩:=hy.ctor
  exact P2 w _ _ _ _ _ _ hl1 hl2 hlen
theorem Nn {xs ys:List Nat} (hx:∀ x∈xs,x<65536) (hy:∀ y∈ys,y<65536):∀ k,cmpD xs ys k=cmpN (val 65536 (xs.take k)) (val 65536 (ys.take k))
 | 0=>by simp [cmpD,cmpN,val]
 | k+1=>by
  rw [cmpD,B7,B7,Nn hx hy k,List.getD_eq_getElem?_getD,List.getD_eq_getElem?_getD]
  have a1:=Ef 65536 (xs.take k) (fun x h=>hx x (List.mem_of_mem_take h))
  have a2:=Ef 65536 (ys.take k) (fun x h=>hy x (List.mem_of_mem_take h))
  have b1:65536 ^ (xs.take k).length≤65536 ^ k:=Nat.pow_le_pow_right (by omega) (by simp;omega)
  have b2:65536 ^ (ys.take k).length≤65536 ^ k:=Nat.pow_le_pow_right (by omega) (by simp;omega)
  generalize val 65536 (xs.take k)=a at *
  generalize val 65536 (ys.take k)=b at *
  generalize xs[k]?.getD 0=x at *
  generalize ys[k]?.getD 0=y at *
  generalize 65536 ^ k=p at *
  split
  ·rename_i h;subst h;unfold cmpN;simp
  ·rename_i h
   split
   ·rename_i h'
    have:p*(x+1)≤p*y:=Nat.mul_le_mul_left p h'
    rw [Nat.mul_add] at this
    unfold cmpN;rw [if_pos (by omega)]
   ·rename_i h'
    have:p*(y+1)≤p*x:=Nat.mul_le_mul_left p (by omega)
    rw [Nat.mul_add] at this
    unfold cmpN;rw [if_neg (by omega),if_neg (by omega)]
theorem Uc (a b:Nat):cmpL (dig 65536 a) (dig 65536 b)=cmpN a b:=by
 have hB:2≤65536:=by omega
 unfold cmpL
 split
 ·rename_i h
  rw [Nn (Ev _ hB a) (Ev _ hB b),List.take_length,h,List.take_length,Ck _ hB,Ck _ hB]
 ·rename_i h
  have l1:=Bz 65536 hB a
  have l2:=Bz 65536 hB b
  have g1:=Ef 65536 _ (Ev _ hB a)
  have g2:=Ef 65536 _ (Ev _ hB b)
  rw [Ck _ hB] at g1 g2
  split
  ·rename_i h'
   have:=mt (l2 (dig 65536 a).length).2 (by omega)
   unfold cmpN;rw [if_pos (by omega)]
  ·rename_i h'
   have:=mt (l1 (dig 65536 b).length).2 (by omega)
   unfold cmpN;rw [if_neg (by omega),if_neg (by omega)]
theorem Gw (w:World) (v1 v2:Value) (a b:Nat) (hx:D16 w v1 (dig 65536 a)) (hy:D16 w v2 (dig 65536 b)) :
  Calls Tryz.prog 182 #[v1,v2] w fun e w'=>e=.returned (.int .i64 (cmpN a b))∧w.grownBy w' none:=by
 refine (Un w v1 v2 _ _ hx hy).mono ?_
 rintro e w' ⟨rfl,n,rfl⟩
 exact ⟨by rw [Uc],Az w n none⟩
end
section
open Go.RowKit Go.Maps
open Rat
theorem OwnQ.from {w:World} {base:Nat} {e:TypeId} {size n:Nat} {v:Value} {xs:List Value} (h:OwnQ w base e size v n xs):From base v:=by
 intro b hb
 rcases h.1.2 with ⟨rfl,_⟩ | ⟨g,cap,cur,rfl,hbb,_⟩
 ·simp [Value.ownBlock] at hb
 ·simp [Value.ownBlock] at hb;omega
theorem D16.at {w:World} {A:Option Addr} {n c:Nat} {ds:List Nat} (h:D16 w (.slice A n c) ds) {i:Nat} (hi:i<ds.length) :
  ∃ b o,A=some ⟨b,o,none⟩∧w.cell? ⟨b,o+i,none⟩=some (.int .i64 ((ds.getD i 0:Nat):Int))∧ds.getD i 0<65536:=by
 have hlt:ds.getD i 0<65536:=by rw [List.getD_eq_getElem?_getD,List.getElem?_eq_getElem hi];exact h.2 _ (List.getElem_mem _)
 rcases h.1 with ⟨_,rfl⟩ | ⟨b,o,c',e,h1,h2,h3⟩
 ·simp at hi
 ·injection e with e e1 e2
  subst e
  exact ⟨b,o,rfl,by rw [h3 i hi,List.getD_eq_getElem?_getD],hlt⟩
theorem E9 (x:Int):NoD (#[Value.int .i64 x]).toList:=by
 intro u hu n
 simp at hu
 subst hu
 simp
theorem Dj {ds:List Nat} {i:Nat} (h:¬ i<ds.length):ds.getD i 0=0:=by
 rw [List.getD_eq_getElem?_getD,List.getElem?_eq_none (by omega)];rfl
theorem Jo {xs ys ds:List Nat} {k q s:Nat} (hl:ds.length=k) (h:val 65536 ds+65536 ^ k*q=val 65536 (xs.take k)+val 65536 (ys.take k)) (hs:s=q+xs.getD k 0+ys.getD k 0) :
  val 65536 (ds++[s % 65536])+65536 ^ (k+1)*(s/65536)=val 65536 (xs.take (k+1))+val 65536 (ys.take (k+1)):=by
 rw [He,hl,B7,B7,Nat.pow_succ]
 simp only [val,Nat.mul_zero,Nat.add_zero]
 generalize 65536 ^ k=p at *
 have e:p*s=p*(s % 65536)+p*65536*(s/65536):=by rw [Nat.mul_assoc,←Nat.mul_add,Nat.mod_add_div]
 have e2:p*s=p*q+p*xs.getD k 0+p*ys.getD k 0:=by rw [hs,Nat.mul_add,Nat.mul_add]
 omega
set_option maxRecDepth 100000 in
theorem Rn (w:World) (v1 v2:Value) (xs ys:List Nat) (hx:D16 w v1 xs) (hy:D16 w v2 ys) (lx:xs.length≤1099511627776) (ly:ys.length≤1099511627776) :
  Calls Tryz.prog 181 #[v1,v2] w fun e w'=>∃ v',e=.returned v'∧D16 w' v' (dig 65536 (val 65536 xs+val 65536 ys))∧From w.heap.size v'∧w.grownBy w' none:=by
 obtain ⟨A1,c1,rfl,_⟩:=hx.ctor
 obtain ⟨A2,c2,rfl,_⟩:=hy.ctor
 have HX:=Ac hx
 have HY:=Ac hy
 clear hx hy
 go_enter Tryz.func181,Tryz.ntmps181
 go_wp2_with fail
 go_loopw [5,6,7] (fun bv cv i wr=>∃ (k q:Nat) (ds:List Nat),k≤max xs.length ys.length+1∧q≤1∧i=.int .i64 k∧cv=.int .i64 q∧w.grownBy wr none∧Hid (k=max xs.length ys.length+1→q=0)∧Hid (OwnQ wr w.heap.size 3 1 bv k (i64s ds))∧Hid ((∀ d∈ds,d<65536)∧ds.length=k∧val 65536 ds+65536 ^ k*q=val 65536 (xs.take k)+val 65536 (ys.take k))) (fun _ _ i _=>(max xs.length ys.length+1-intOf i).toNat)
 case atStart=>exact ⟨0,0,[],by omega,by omega,rfl,rfl,Al _ _,Ac (fun _=>rfl),Ac (OwnQ.nil _ _ _ _),Ac ⟨by simp,rfl,by simp [val]⟩⟩
 case round =>
  obtain ⟨k,q,ds,hk,hq,rfl,rfl,hg,hend,hown,hval⟩:=hrel
  by_cases a1:k<xs.length
  ·obtain ⟨b1,o1,rfl,u1,lx1⟩:=(HX.out.more hg).at a1
   generalize hxk:xs.getD k 0=x at *
   by_cases a2:k<ys.length
   ·obtain ⟨b2,o2,rfl,u2,ly1⟩:=(HY.out.more hg).at a2
    generalize hyk:ys.getD k 0=y at *
    obtain ⟨s,hs⟩:∃ s,s=q+x+y:=⟨_,rfl⟩
    have hS:(q:Int)+x+y=(s:Int):=by omega
    have HSUM:Hid (s=q+xs.getD k 0+ys.getD k 0):=Ac (by rw [hxk,hyk];exact hs)
    clear hxk hyk
    have hsb:s≤131071:=by omega
    clear hs
    have r1:(s:Int).tmod 65536=(s:Int) % 65536:=Int.tmod_eq_emod_of_nonneg (by omega)
    have r2:(s:Int).tdiv 65536=(s:Int)/65536:=Int.tdiv_eq_ediv_of_nonneg (by omega)
    have HS3:=Ac (show s≤131071 by omega)
    have hs1:=hg.size
    have HG:=Ac hg
    have HQ:=Ac hq
    have HKM:=Ac (show k≤max xs.length ys.length by omega)
    clear hg hk hend
    go_wp2_with (first
     | (at_builtin;refine Cu w.heap.size rfl (.tmp 46) (.tmp 49) 30 3 (.int .i64 0) 1 8 rfl Tryz.underlying30 Cm rfl (by omega) (by omega) u5 k (i64s ds) #[.int .i64 ((s:Int) % 65536)] (by rfl) hown.out (by rfl) (by rfl) (by simp [Value.oneCell']) (by omega) (by omega) (E9 _) E8 ?_;intro g cap w3 hown3 hgrow;have H3:=Ac (And.intro hown3 hgrow);clear hown3 hgrow)
     | fail)
    have hkm:=HKM.out
    have hs3:=HS3.out
    refine ⟨⟨k+1,s/65536,ds++[s % 65536],by omega,by omega,by go_num,by go_num,Gt (Ae HG.out (Af _ _ _)) (hown.out.more (Af _ _ _)) H3.out.2,Ac (fun h=>?_),Ac ?_,Ac ⟨?_,?_,?_⟩⟩,by simp [intOf];omega⟩
    ·have hsum:=HSUM.out
     have hq:=HQ.out
     rw [Dj (ds:=xs) (i:=k) (by omega),Dj (ds:=ys) (i:=k) (by omega)] at hsum
     omega
    ·have:=H3.out.1
     unfold i64s at *
     rw [List.map_append]
     simpa using this
    ·intro d hd
     rcases List.mem_append.1 hd with hd | hd
     ·exact hval.out.1 d hd
     ·simp at hd;omega
    ·rw [List.length_append,hval.out.2.1];rfl
    ·exact Jo hval.out.2.1 hval.out.2.2 HSUM.out
   ·obtain ⟨s,hs⟩:∃ s,s=q+x:=⟨_,rfl⟩
    have hS:(q:Int)+x=(s:Int):=by omega
    have HSUM:Hid (s=q+xs.getD k 0+ys.getD k 0):=Ac (by rw [hxk,Dj a2];exact hs)
    clear hxk
    have hsb:s≤131071:=by omega
    clear hs
    have r1:(s:Int).tmod 65536=(s:Int) % 65536:=Int.tmod_eq_emod_of_nonneg (by omega)
    have r2:(s:Int).tdiv 65536=(s:Int)/65536:=Int.tdiv_eq_ediv_of_nonneg (by omega)
    have HS3:=Ac (show s≤131071 by omega)
    have hs1:=hg.size
    have HG:=Ac hg
    have HQ:=Ac hq
    have HKM:=Ac (show k≤max xs.length ys.length by omega)
    clear hg hk hend
    go_wp2_with (first
     | (at_builtin;refine Cu w.heap.size rfl (.tmp 46) (.tmp 49) 30 3 (.int .i64 0) 1 8 rfl Tryz.underlying30 Cm rfl (by omega) (by omega) u5 k (i64s ds) #[.int .i64 ((s:Int) % 65536)] (by rfl) hown.out (by rfl) (by rfl) (by simp [Value.oneCell']) (by omega) (by omega) (E9 _) E8 ?_;intro g cap w3 hown3 hgrow;have H3:=Ac (And.intro hown3 hgrow);clear hown3 hgrow)
     | fail)
    have hkm:=HKM.out
    have hs3:=HS3.out
    refine ⟨⟨k+1,s/65536,ds++[s % 65536],by omega,by omega,by go_num,by go_num,Gt (Ae HG.out (Af _ _ _)) (hown.out.more (Af _ _ _)) H3.out.2,Ac (fun h=>?_),Ac ?_,Ac ⟨?_,?_,?_⟩⟩,by simp [intOf];omega⟩
    ·have hsum:=HSUM.out
     have hq:=HQ.out
     rw [Dj (ds:=xs) (i:=k) (by omega),Dj (ds:=ys) (i:=k) (by omega)] at hsum
     omega
    ·have:=H3.out.1
     unfold i64s at *
     rw [List.map_append]
     simpa using this
    ·intro d hd
     rcases List.mem_append.1 hd with hd | hd
     ·exact hval.out.1 d hd
     ·simp at hd;omega
    ·rw [List.length_append,hval.out.2.1];rfl
    ·exact Jo hval.out.2.1 hval.out.2.2 HSUM.out
  ·by_cases a2:k<ys.length
   ·obtain ⟨b2,o2,rfl,u2,ly1⟩:=(HY.out.more hg).at a2
    generalize hyk:ys.getD k 0=y at *
    obtain ⟨s,hs⟩:∃ s,s=q+y:=⟨_,rfl⟩
    have hS:(q:Int)+y=(s:Int):=by omega
    have HSUM:Hid (s=q+xs.getD k 0+ys.getD k 0):=Ac (by rw [hyk,Dj a1];exact hs)
    clear hyk
    have hsb:s≤131071:=by omega
    clear hs
    have r1:(s:Int).tmod 65536=(s:Int) % 65536:=Int.tmod_eq_emod_of_nonneg (by omega)
    have r2:(s:Int).tdiv 65536=(s:Int)/65536:=Int.tdiv_eq_ediv_of_nonneg (by omega)
    have HS3:=Ac (show s≤131071 by omega)
    have hs1:=hg.size
    have HG:=Ac hg
    have HQ:=Ac hq
    have HKM:=Ac (show k≤max xs.length ys.length by omega)
    clear hg hk hend
    go_wp2_with (first
     | (at_builtin;refine Cu w.heap.size rfl (.tmp 46) (.tmp 49) 30 3 (.int .i64 0) 1 8 rfl Tryz.underlying30 Cm rfl (by omega) (by omega) u5 k (i64s ds) #[.int .i64 ((s:Int) % 65536)] (by rfl) hown.out (by rfl) (by rfl) (by simp [Value.oneCell']) (by omega) (by omega) (E9 _) E8 ?_;intro g cap w3 hown3 hgrow;have H3:=Ac (And.intro hown3 hgrow);clear hown3 hgrow)
     | fail)
    have hkm:=HKM.out
    have hs3:=HS3.out
    refine ⟨⟨k+1,s/65536,ds++[s % 65536],by omega,by omega,by go_num,by go_num,Gt (Ae HG.out (Af _ _ _)) (hown.out.more (Af _ _ _)) H3.out.2,Ac (fun h=>?_),Ac ?_,Ac ⟨?_,?_,?_⟩⟩,by simp [intOf];omega⟩
    ·have hsum:=HSUM.out
     have hq:=HQ.out
     rw [Dj (ds:=xs) (i:=k) (by omega),Dj (ds:=ys) (i:=k) (by omega)] at hsum
     omega
    ·have:=H3.out.1
     unfold i64s at *
     rw [List.map_append]
     simpa using this
    ·intro d hd
     rcases List.mem_append.1 hd with hd | hd
     ·exact hval.out.1 d hd
     ·simp at hd;omega
    ·rw [List.length_append,hval.out.2.1];rfl
    ·exact Jo hval.out.2.1 hval.out.2.2 HSUM.out
   ·by_cases a3:0<q
    ·have hke:=hend.out
     have HSUM:Hid (q=q+xs.getD k 0+ys.getD k 0):=Ac (by rw [Dj a1,Dj a2];rfl)
     have a4:k≤max xs.length ys.length:=by omega
     clear hke
     have r1:(q:Int).tmod 65536=(q:Int) % 65536:=Int.tmod_eq_emod_of_nonneg (by omega)
     have r2:(q:Int).tdiv 65536=(q:Int)/65536:=Int.tdiv_eq_ediv_of_nonneg (by omega)
     have HS3:=Ac (show q≤131071 by omega)
     have hs1:=hg.size
     have HG:=Ac hg
     have HQ:=Ac hq
     have HKM:=Ac (show k≤max xs.length ys.length by omega)
     clear hg hk hend
     go_wp2_with (first
      | (at_builtin;refine Cu w.heap.size rfl (.tmp 46) (.tmp 49) 30 3 (.int .i64 0) 1 8 rfl Tryz.underlying30 Cm rfl (by omega) (by omega) u5 k (i64s ds) #[.int .i64 ((q:Int) % 65536)] (by rfl) hown.out (by rfl) (by rfl) (by simp [Value.oneCell']) (by omega) (by omega) (E9 _) E8 ?_;intro g cap w3 hown3 hgrow;have H3:=Ac (And.intro hown3 hgrow);clear hown3 hgrow)
      | fail)
     have hkm:=HKM.out
     have hs3:=HS3.out
     refine ⟨⟨k+1,q/65536,ds++[q % 65536],by omega,by omega,by go_num,by go_num,Gt (Ae HG.out (Af _ _ _)) (hown.out.more (Af _ _ _)) H3.out.2,Ac (fun h=>?_),Ac ?_,Ac ⟨?_,?_,?_⟩⟩,by simp [intOf];omega⟩
     ·have hsum:=HSUM.out
      have hq:=HQ.out
      rw [Dj (ds:=xs) (i:=k) (by omega),Dj (ds:=ys) (i:=k) (by omega)] at hsum
      omega
     ·have:=H3.out.1
      unfold i64s at *
      rw [List.map_append]
      simpa using this
     ·intro d hd
      rcases List.mem_append.1 hd with hd | hd
      ·exact hval.out.1 d hd
      ·simp at hd;omega
     ·rw [List.length_append,hval.out.2.1];rfl
     ·exact Jo hval.out.2.1 hval.out.2.2 HSUM.out
    ·obtain rfl:q=0:=by omega
     have hd:D16 wr u5 ds:=hown.out.d16 hval.out.2.1.symm hval.out.1
     have HD:=Ac hd
     have HFR:=Ac hown.out.from
     have HV:Hid (val 65536 ds=val 65536 xs+val 65536 ys):=Ac (by
      have:=hval.out.2.2
      rw [Ce _ _ _ (by omega),Ce _ _ _ (by omega)] at this
      omega)
     clear hown hval hd hend
     go_wp2_with fail
     refine (Fu wr u5 ds HD.out).mono ?_
     rintro e w' ⟨v',rfl,hd1,hob,rfl⟩
     rw [HV.out] at hd1
     have HD1:=Ac hd1
     have HOB:=Ac hob
     clear hd1 hob
     go_wp2_with fail
     go_ret
     exact ⟨v',rfl,HD1.out,fun b hb=>HFR.out b (by rw [←HOB.out];exact hb),hg⟩
end
end Go.Proofs.YtmfmfpmkgmkgiaaGreatDoor
