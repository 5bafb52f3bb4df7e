/- The code is the program's; what is checked of it. -/
import Derived.Test.YtgfmodmeimhhpaaGreatDoorJF
namespace Go.Proofs.YtgfmodmeimhhpaaGreatDoor
open Go.VM
set_option maxRecDepth 100000
theorem tab5:mM Tryz.prog hh5 vf5.kept vf5.cons Tryz.f5=some vf5:=by kernel_rfl
theorem sig5:(⟨vf5.cons,vf5.quiet⟩:Sig)=⟨[],false⟩:=by kernel_rfl
theorem chk5:aH8 sgN vsN (sgN 5) fi5 vf5=true:=by kernel_rfl
theorem tab6:mM Tryz.prog hh6 vf6.kept vf6.cons Tryz.f6=some vf6:=by kernel_rfl
theorem sig6:(⟨vf6.cons,vf6.quiet⟩:Sig)=⟨[],true⟩:=by kernel_rfl
theorem chk6:aH8 sgN vsN (sgN 6) fi6 vf6=true:=by kernel_rfl
theorem tab7:mM Tryz.prog hh7 vf7.kept vf7.cons Tryz.f7=some vf7:=by kernel_rfl
theorem sig7:(⟨vf7.cons,vf7.quiet⟩:Sig)=⟨[],false⟩:=by kernel_rfl
theorem chk7:aH8 sgN vsN (sgN 7) fi7 vf7=true:=by kernel_rfl
theorem tab8:mM Tryz.prog hh8 vf8.kept vf8.cons Tryz.f8=some vf8:=by kernel_rfl
theorem sig8:(⟨vf8.cons,vf8.quiet⟩:Sig)=⟨[],false⟩:=by kernel_rfl
theorem chk8:aH8 sgN vsN (sgN 8) fi8 vf8=true:=by kernel_rfl
theorem tab9:mM Tryz.prog hh9 vf9.kept vf9.cons Tryz.f9=some vf9:=by kernel_rfl
theorem sig9:(⟨vf9.cons,vf9.quiet⟩:Sig)=⟨[],false⟩:=by kernel_rfl
theorem chk9:aH8 sgN vsN (sgN 9) fi9 vf9=true:=by kernel_rfl
theorem tab10:mM Tryz.prog hh10 vf10.kept vf10.cons Tryz.f10=some vf10:=by kernel_rfl
theorem sig10:(⟨vf10.cons,vf10.quiet⟩:Sig)=⟨[],true⟩:=by kernel_rfl
theorem chk10:aH8 sgN vsN (sgN 10) fi10 vf10=true:=by kernel_rfl
theorem tab11:mM Tryz.prog hh11 vf11.kept vf11.cons Tryz.f11=some vf11:=by kernel_rfl
theorem sig11:(⟨vf11.cons,vf11.quiet⟩:Sig)=⟨[],true⟩:=by kernel_rfl
theorem chk11:aH8 sgN vsN (sgN 11) fi11 vf11=true:=by kernel_rfl
theorem tab13:mM Tryz.prog hh13 vf13.kept vf13.cons Tryz.f13=some vf13:=by kernel_rfl
theorem sig13:(⟨vf13.cons,vf13.quiet⟩:Sig)=⟨[],true⟩:=by kernel_rfl
theorem chk13:aH8 sgN vsN (sgN 13) fi13 vf13=true:=by kernel_rfl
theorem tab18:mM Tryz.prog hh18 vf18.kept vf18.cons Tryz.f18=some vf18:=by kernel_rfl
theorem sig18:(⟨vf18.cons,vf18.quiet⟩:Sig)=⟨[],true⟩:=by kernel_rfl
theorem chk18:aH8 sgN vsN (sgN 18) fi18 vf18=true:=by kernel_rfl
theorem tab21:mM Tryz.prog hh21 vf21.kept vf21.cons Tryz.f21=some vf21:=by kernel_rfl
theorem sig21:(⟨vf21.cons,vf21.quiet⟩:Sig)=⟨[],true⟩:=by kernel_rfl
theorem chk21:aH8 sgN vsN (sgN 21) fi21 vf21=true:=by kernel_rfl
theorem tab24:mM Tryz.prog hh24 vf24.kept vf24.cons Tryz.f24=some vf24:=by kernel_rfl
theorem sig24:(⟨vf24.cons,vf24.quiet⟩:Sig)=⟨[],true⟩:=by kernel_rfl
theorem chk24:aH8 sgN vsN (sgN 24) fi24 vf24=true:=by kernel_rfl
theorem tab25:mM Tryz.prog hh25 vf25.kept vf25.cons Tryz.f25=some vf25:=by kernel_rfl
theorem sig25:(⟨vf25.cons,vf25.quiet⟩:Sig)=⟨[],true⟩:=by kernel_rfl
theorem chk25:aH8 sgN vsN (sgN 25) fi25 vf25=true:=by kernel_rfl
theorem tab26:mM Tryz.prog hh26 vf26.kept vf26.cons Tryz.f26=some vf26:=by kernel_rfl
theorem sig26:(⟨vf26.cons,vf26.quiet⟩:Sig)=⟨[],true⟩:=by kernel_rfl
theorem chk26:aH8 sgN vsN (sgN 26) fi26 vf26=true:=by kernel_rfl
theorem tab27:mM Tryz.prog hh27 vf27.kept vf27.cons Tryz.f27=some vf27:=by kernel_rfl
theorem sig27:(⟨vf27.cons,vf27.quiet⟩:Sig)=⟨[],false⟩:=by kernel_rfl
theorem chk27:aH8 sgN vsN (sgN 27) fi27 vf27=true:=by kernel_rfl
theorem tab29:mM Tryz.prog hh29 vf29.kept vf29.cons Tryz.f29=some vf29:=by kernel_rfl
theorem sig29:(⟨vf29.cons,vf29.quiet⟩:Sig)=⟨[],true⟩:=by kernel_rfl
theorem chk29:aH8 sgN vsN (sgN 29) fi29 vf29=true:=by kernel_rfl
theorem tab30:mM Tryz.prog hh30 vf30.kept vf30.cons Tryz.f30=some vf30:=by kernel_rfl
theorem sig30:(⟨vf30.cons,vf30.quiet⟩:Sig)=⟨[],true⟩:=by kernel_rfl
theorem chk30:aH8 sgN vsN (sgN 30) fi30 vf30=true:=by kernel_rfl
theorem tab31:mM Tryz.prog hh31 vf31.kept vf31.cons Tryz.f31=some vf31:=by kernel_rfl
theorem sig31:(⟨vf31.cons,vf31.quiet⟩:Sig)=⟨[],true⟩:=by kernel_rfl
theorem chk31:aH8 sgN vsN (sgN 31) fi31 vf31=true:=by kernel_rfl
theorem tab32:mM Tryz.prog hh32 vf32.kept vf32.cons Tryz.f32=some vf32:=by kernel_rfl
theorem sig32:(⟨vf32.cons,vf32.quiet⟩:Sig)=⟨[],true⟩:=by kernel_rfl
theorem chk32:aH8 sgN vsN (sgN 32) fi32 vf32=true:=by kernel_rfl
theorem tab33:mM Tryz.prog hh33 vf33.kept vf33.cons Tryz.f33=some vf33:=by kernel_rfl
theorem sig33:(⟨vf33.cons,vf33.quiet⟩:Sig)=⟨[],true⟩:=by kernel_rfl
theorem chk33:aH8 sgN vsN (sgN 33) fi33 vf33=true:=by kernel_rfl
theorem tab39:mM Tryz.prog hh39 vf39.kept vf39.cons Tryz.f39=some vf39:=by kernel_rfl
theorem sig39:(⟨vf39.cons,vf39.quiet⟩:Sig)=⟨[],true⟩:=by kernel_rfl
theorem chk39:aH8 sgN vsN (sgN 39) fi39 vf39=true:=by kernel_rfl
theorem tab45:mM Tryz.prog hh45 vf45.kept vf45.cons Tryz.f45=some vf45:=by kernel_rfl
theorem sig45:(⟨vf45.cons,vf45.quiet⟩:Sig)=⟨[],true⟩:=by kernel_rfl
theorem chk45:aH8 sgN vsN (sgN 45) fi45 vf45=true:=by kernel_rfl
theorem tab46:mM Tryz.prog hh46 vf46.kept vf46.cons Tryz.f46=some vf46:=by kernel_rfl
theorem sig46:(⟨vf46.cons,vf46.quiet⟩:Sig)=⟨[],true⟩:=by kernel_rfl
theorem chk46:aH8 sgN vsN (sgN 46) fi46 vf46=true:=by kernel_rfl
theorem tab47:mM Tryz.prog hh47 vf47.kept vf47.cons Tryz.f47=some vf47:=by kernel_rfl
theorem sig47:(⟨vf47.cons,vf47.quiet⟩:Sig)=⟨[],true⟩:=by kernel_rfl
theorem chk47:aH8 sgN vsN (sgN 47) fi47 vf47=true:=by kernel_rfl
theorem tab48:mM Tryz.prog hh48 vf48.kept vf48.cons Tryz.f48=some vf48:=by kernel_rfl
theorem sig48:(⟨vf48.cons,vf48.quiet⟩:Sig)=⟨[],true⟩:=by kernel_rfl
theorem chk48:aH8 sgN vsN (sgN 48) fi48 vf48=true:=by kernel_rfl
theorem tab50:mM Tryz.prog hh50 vf50.kept vf50.cons Tryz.f50=some vf50:=by kernel_rfl
theorem sig50:(⟨vf50.cons,vf50.quiet⟩:Sig)=⟨[],true⟩:=by kernel_rfl
theorem chk50:aH8 sgN vsN (sgN 50) fi50 vf50=true:=by kernel_rfl
theorem tab56:mM Tryz.prog hh56 vf56.kept vf56.cons Tryz.f56=some vf56:=by kernel_rfl
theorem sig56:(⟨vf56.cons,vf56.quiet⟩:Sig)=⟨[],true⟩:=by kernel_rfl
theorem chk56:aH8 sgN vsN (sgN 56) fi56 vf56=true:=by kernel_rfl
theorem tab57:mM Tryz.prog hh57 vf57.kept vf57.cons Tryz.f57=some vf57:=by kernel_rfl
theorem sig57:(⟨vf57.cons,vf57.quiet⟩:Sig)=⟨[],true⟩:=by kernel_rfl
theorem chk57:aH8 sgN vsN (sgN 57) fi57 vf57=true:=by kernel_rfl
theorem tab58:mM Tryz.prog hh58 vf58.kept vf58.cons Tryz.f58=some vf58:=by kernel_rfl
theorem sig58:(⟨vf58.cons,vf58.quiet⟩:Sig)=⟨[],true⟩:=by kernel_rfl
theorem chk58:aH8 sgN vsN (sgN 58) fi58 vf58=true:=by kernel_rfl
theorem tab59:mM Tryz.prog hh59 vf59.kept vf59.cons Tryz.f59=some vf59:=by kernel_rfl
theorem sig59:(⟨vf59.cons,vf59.quiet⟩:Sig)=⟨[],true⟩:=by kernel_rfl
theorem chk59:aH8 sgN vsN (sgN 59) fi59 vf59=true:=by kernel_rfl
theorem tab60:mM Tryz.prog hh60 vf60.kept vf60.cons Tryz.f60=some vf60:=by kernel_rfl
theorem sig60:(⟨vf60.cons,vf60.quiet⟩:Sig)=⟨[],true⟩:=by kernel_rfl
theorem chk60:aH8 sgN vsN (sgN 60) fi60 vf60=true:=by kernel_rfl
theorem tab61:mM Tryz.prog hh61 vf61.kept vf61.cons Tryz.f61=some vf61:=by kernel_rfl
theorem sig61:(⟨vf61.cons,vf61.quiet⟩:Sig)=⟨[],true⟩:=by kernel_rfl
theorem chk61:aH8 sgN vsN (sgN 61) fi61 vf61=true:=by kernel_rfl
theorem tab62:mM Tryz.prog hh62 vf62.kept vf62.cons Tryz.f62=some vf62:=by kernel_rfl
theorem sig62:(⟨vf62.cons,vf62.quiet⟩:Sig)=⟨[],true⟩:=by kernel_rfl
theorem chk62:aH8 sgN vsN (sgN 62) fi62 vf62=true:=by kernel_rfl
theorem tab67:mM Tryz.prog hh67 vf67.kept vf67.cons Tryz.f67=some vf67:=by kernel_rfl
theorem sig67:(⟨vf67.cons,vf67.quiet⟩:Sig)=⟨[],true⟩:=by kernel_rfl
theorem chk67:aH8 sgN vsN (sgN 67) fi67 vf67=true:=by kernel_rfl
theorem tab68:mM Tryz.prog hh68 vf68.kept vf68.cons Tryz.f68=some vf68:=by kernel_rfl
theorem sig68:(⟨vf68.cons,vf68.quiet⟩:Sig)=⟨[],true⟩:=by kernel_rfl
theorem chk68:aH8 sgN vsN (sgN 68) fi68 vf68=true:=by kernel_rfl
theorem tab69:mM Tryz.prog hh69 vf69.kept vf69.cons Tryz.f69=some vf69:=by kernel_rfl
theorem sig69:(⟨vf69.cons,vf69.quiet⟩:Sig)=⟨[],true⟩:=by kernel_rfl
theorem chk69:aH8 sgN vsN (sgN 69) fi69 vf69=true:=by kernel_rfl
theorem tab70:mM Tryz.prog hh70 vf70.kept vf70.cons Tryz.f70=some vf70:=by kernel_rfl
theorem sig70:(⟨vf70.cons,vf70.quiet⟩:Sig)=⟨[],true⟩:=by kernel_rfl
theorem chk70:aH8 sgN vsN (sgN 70) fi70 vf70=true:=by kernel_rfl
theorem tab71:mM Tryz.prog hh71 vf71.kept vf71.cons Tryz.f71=some vf71:=by kernel_rfl
theorem sig71:(⟨vf71.cons,vf71.quiet⟩:Sig)=⟨[],true⟩:=by kernel_rfl
theorem chk71:aH8 sgN vsN (sgN 71) fi71 vf71=true:=by kernel_rfl
theorem tab72:mM Tryz.prog hh72 vf72.kept vf72.cons Tryz.f72=some vf72:=by kernel_rfl
theorem sig72:(⟨vf72.cons,vf72.quiet⟩:Sig)=⟨[],true⟩:=by kernel_rfl
theorem chk72:aH8 sgN vsN (sgN 72) fi72 vf72=true:=by kernel_rfl
theorem tab73:mM Tryz.prog hh73 vf73.kept vf73.cons Tryz.f73=some vf73:=by kernel_rfl
theorem sig73:(⟨vf73.cons,vf73.quiet⟩:Sig)=⟨[],true⟩:=by kernel_rfl
theorem chk73:aH8 sgN vsN (sgN 73) fi73 vf73=true:=by kernel_rfl
theorem tab74:mM Tryz.prog hh74 vf74.kept vf74.cons Tryz.f74=some vf74:=by kernel_rfl
theorem sig74:(⟨vf74.cons,vf74.quiet⟩:Sig)=⟨[],true⟩:=by kernel_rfl
theorem chk74:aH8 sgN vsN (sgN 74) fi74 vf74=true:=by kernel_rfl
theorem tab75:mM Tryz.prog hh75 vf75.kept vf75.cons Tryz.f75=some vf75:=by kernel_rfl
theorem sig75:(⟨vf75.cons,vf75.quiet⟩:Sig)=⟨[],true⟩:=by kernel_rfl
theorem chk75:aH8 sgN vsN (sgN 75) fi75 vf75=true:=by kernel_rfl
theorem tab76:mM Tryz.prog hh76 vf76.kept vf76.cons Tryz.f76=some vf76:=by kernel_rfl
theorem sig76:(⟨vf76.cons,vf76.quiet⟩:Sig)=⟨[],true⟩:=by kernel_rfl
theorem chk76:aH8 sgN vsN (sgN 76) fi76 vf76=true:=by kernel_rfl
theorem tab79:mM Tryz.prog hh79 vf79.kept vf79.cons Tryz.f79=some vf79:=by kernel_rfl
theorem sig79:(⟨vf79.cons,vf79.quiet⟩:Sig)=⟨[],true⟩:=by kernel_rfl
theorem chk79:aH8 sgN vsN (sgN 79) fi79 vf79=true:=by kernel_rfl
theorem tab80:mM Tryz.prog hh80 vf80.kept vf80.cons Tryz.f80=some vf80:=by kernel_rfl
theorem sig80:(⟨vf80.cons,vf80.quiet⟩:Sig)=⟨[],true⟩:=by kernel_rfl
theorem chk80:aH8 sgN vsN (sgN 80) fi80 vf80=true:=by kernel_rfl
theorem tab81:mM Tryz.prog hh81 vf81.kept vf81.cons Tryz.f81=some vf81:=by kernel_rfl
theorem sig81:(⟨vf81.cons,vf81.quiet⟩:Sig)=⟨[],true⟩:=by kernel_rfl
theorem chk81:aH8 sgN vsN (sgN 81) fi81 vf81=true:=by kernel_rfl
theorem tab82:mM Tryz.prog hh82 vf82.kept vf82.cons Tryz.f82=some vf82:=by kernel_rfl
theorem sig82:(⟨vf82.cons,vf82.quiet⟩:Sig)=⟨[],true⟩:=by kernel_rfl
theorem chk82:aH8 sgN vsN (sgN 82) fi82 vf82=true:=by kernel_rfl
theorem tab83:mM Tryz.prog hh83 vf83.kept vf83.cons Tryz.f83=some vf83:=by kernel_rfl
theorem sig83:(⟨vf83.cons,vf83.quiet⟩:Sig)=⟨[],true⟩:=by kernel_rfl
theorem chk83:aH8 sgN vsN (sgN 83) fi83 vf83=true:=by kernel_rfl
theorem tab84:mM Tryz.prog hh84 vf84.kept vf84.cons Tryz.f84=some vf84:=by kernel_rfl
theorem sig84:(⟨vf84.cons,vf84.quiet⟩:Sig)=⟨[],true⟩:=by kernel_rfl
theorem chk84:aH8 sgN vsN (sgN 84) fi84 vf84=true:=by kernel_rfl
theorem tab85:mM Tryz.prog hh85 vf85.kept vf85.cons Tryz.f85=some vf85:=by kernel_rfl
theorem sig85:(⟨vf85.cons,vf85.quiet⟩:Sig)=⟨[],true⟩:=by kernel_rfl
theorem chk85:aH8 sgN vsN (sgN 85) fi85 vf85=true:=by kernel_rfl
theorem tab86:mM Tryz.prog hh86 vf86.kept vf86.cons Tryz.f86=some vf86:=by kernel_rfl
theorem sig86:(⟨vf86.cons,vf86.quiet⟩:Sig)=⟨[],true⟩:=by kernel_rfl
theorem chk86:aH8 sgN vsN (sgN 86) fi86 vf86=true:=by kernel_rfl
theorem tab87:mM Tryz.prog hh87 vf87.kept vf87.cons Tryz.f87=some vf87:=by kernel_rfl
theorem sig87:(⟨vf87.cons,vf87.quiet⟩:Sig)=⟨[],true⟩:=by kernel_rfl
theorem chk87:aH8 sgN vsN (sgN 87) fi87 vf87=true:=by kernel_rfl
theorem tab91:mM Tryz.prog hh91 vf91.kept vf91.cons Tryz.f91=some vf91:=by kernel_rfl
theorem sig91:(⟨vf91.cons,vf91.quiet⟩:Sig)=⟨[],true⟩:=by kernel_rfl
theorem chk91:aH8 sgN vsN (sgN 91) fi91 vf91=true:=by kernel_rfl
theorem tab92:mM Tryz.prog hh92 vf92.kept vf92.cons Tryz.f92=some vf92:=by kernel_rfl
theorem sig92:(⟨vf92.cons,vf92.quiet⟩:Sig)=⟨[],true⟩:=by kernel_rfl
theorem chk92:aH8 sgN vsN (sgN 92) fi92 vf92=true:=by kernel_rfl
theorem tab96:mM Tryz.prog hh96 vf96.kept vf96.cons Tryz.f96=some vf96:=by kernel_rfl
theorem sig96:(⟨vf96.cons,vf96.quiet⟩:Sig)=⟨[],true⟩:=by kernel_rfl
theorem chk96:aH8 sgN vsN (sgN 96) fi96 vf96=true:=by kernel_rfl
theorem tab97:mM Tryz.prog hh97 vf97.kept vf97.cons Tryz.f97=some vf97:=by kernel_rfl
theorem sig97:(⟨vf97.cons,vf97.quiet⟩:Sig)=⟨[],true⟩:=by kernel_rfl
theorem chk97:aH8 sgN vsN (sgN 97) fi97 vf97=true:=by kernel_rfl
theorem tab98:mM Tryz.prog hh98 vf98.kept vf98.cons Tryz.f98=some vf98:=by kernel_rfl
theorem sig98:(⟨vf98.cons,vf98.quiet⟩:Sig)=⟨[],true⟩:=by kernel_rfl
theorem chk98:aH8 sgN vsN (sgN 98) fi98 vf98=true:=by kernel_rfl
theorem tab99:mM Tryz.prog hh99 vf99.kept vf99.cons Tryz.f99=some vf99:=by kernel_rfl
theorem sig99:(⟨vf99.cons,vf99.quiet⟩:Sig)=⟨[],true⟩:=by kernel_rfl
theorem chk99:aH8 sgN vsN (sgN 99) fi99 vf99=true:=by kernel_rfl
theorem tab100:mM Tryz.prog hh100 vf100.kept vf100.cons Tryz.f100=some vf100:=by kernel_rfl
theorem sig100:(⟨vf100.cons,vf100.quiet⟩:Sig)=⟨[],true⟩:=by kernel_rfl
theorem chk100:aH8 sgN vsN (sgN 100) fi100 vf100=true:=by kernel_rfl
theorem tab101:mM Tryz.prog hh101 vf101.kept vf101.cons Tryz.f101=some vf101:=by kernel_rfl
theorem sig101:(⟨vf101.cons,vf101.quiet⟩:Sig)=⟨[],true⟩:=by kernel_rfl
theorem chk101:aH8 sgN vsN (sgN 101) fi101 vf101=true:=by kernel_rfl
theorem tab102:mM Tryz.prog hh102 vf102.kept vf102.cons Tryz.f102=some vf102:=by kernel_rfl
theorem sig102:(⟨vf102.cons,vf102.quiet⟩:Sig)=⟨[],true⟩:=by kernel_rfl
theorem chk102:aH8 sgN vsN (sgN 102) fi102 vf102=true:=by kernel_rfl
theorem tab103:mM Tryz.prog hh103 vf103.kept vf103.cons Tryz.f103=some vf103:=by kernel_rfl
theorem sig103:(⟨vf103.cons,vf103.quiet⟩:Sig)=⟨[],true⟩:=by kernel_rfl
theorem chk103:aH8 sgN vsN (sgN 103) fi103 vf103=true:=by kernel_rfl
theorem tab104:mM Tryz.prog hh104 vf104.kept vf104.cons Tryz.f104=some vf104:=by kernel_rfl
theorem sig104:(⟨vf104.cons,vf104.quiet⟩:Sig)=⟨[],true⟩:=by kernel_rfl
theorem chk104:aH8 sgN vsN (sgN 104) fi104 vf104=true:=by kernel_rfl
theorem tab105:mM Tryz.prog hh105 vf105.kept vf105.cons Tryz.f105=some vf105:=by kernel_rfl
theorem sig105:(⟨vf105.cons,vf105.quiet⟩:Sig)=⟨[],true⟩:=by kernel_rfl
theorem chk105:aH8 sgN vsN (sgN 105) fi105 vf105=true:=by kernel_rfl
theorem tab106:mM Tryz.prog hh106 vf106.kept vf106.cons Tryz.f106=some vf106:=by kernel_rfl
theorem sig106:(⟨vf106.cons,vf106.quiet⟩:Sig)=⟨[],true⟩:=by kernel_rfl
theorem chk106:aH8 sgN vsN (sgN 106) fi106 vf106=true:=by kernel_rfl
theorem tab107:mM Tryz.prog hh107 vf107.kept vf107.cons Tryz.f107=some vf107:=by kernel_rfl
theorem sig107:(⟨vf107.cons,vf107.quiet⟩:Sig)=⟨[],true⟩:=by kernel_rfl
theorem chk107:aH8 sgN vsN (sgN 107) fi107 vf107=true:=by kernel_rfl
theorem tab108:mM Tryz.prog hh108 vf108.kept vf108.cons Tryz.f108=some vf108:=by kernel_rfl
theorem sig108:(⟨vf108.cons,vf108.quiet⟩:Sig)=⟨[],true⟩:=by kernel_rfl
theorem chk108:aH8 sgN vsN (sgN 108) fi108 vf108=true:=by kernel_rfl
theorem tab109:mM Tryz.prog hh109 vf109.kept vf109.cons Tryz.f109=some vf109:=by kernel_rfl
theorem sig109:(⟨vf109.cons,vf109.quiet⟩:Sig)=⟨[],true⟩:=by kernel_rfl
theorem chk109:aH8 sgN vsN (sgN 109) fi109 vf109=true:=by kernel_rfl
theorem tab116:mM Tryz.prog hh116 vf116.kept vf116.cons Tryz.f116=some vf116:=by kernel_rfl
theorem sig116:(⟨vf116.cons,vf116.quiet⟩:Sig)=⟨[],true⟩:=by kernel_rfl
theorem chk116:aH8 sgN vsN (sgN 116) fi116 vf116=true:=by kernel_rfl
theorem tab121:mM Tryz.prog hh121 vf121.kept vf121.cons Tryz.f121=some vf121:=by kernel_rfl
theorem sig121:(⟨vf121.cons,vf121.quiet⟩:Sig)=⟨[],true⟩:=by kernel_rfl
theorem chk121:aH8 sgN vsN (sgN 121) fi121 vf121=true:=by kernel_rfl
theorem tab122:mM Tryz.prog hh122 vf122.kept vf122.cons Tryz.f122=some vf122:=by kernel_rfl
theorem sig122:(⟨vf122.cons,vf122.quiet⟩:Sig)=⟨[],true⟩:=by kernel_rfl
theorem chk122:aH8 sgN vsN (sgN 122) fi122 vf122=true:=by kernel_rfl
theorem tab123:mM Tryz.prog hh123 vf123.kept vf123.cons Tryz.f123=some vf123:=by kernel_rfl
theorem sig123:(⟨vf123.cons,vf123.quiet⟩:Sig)=⟨[],true⟩:=by kernel_rfl
theorem chk123:aH8 sgN vsN (sgN 123) fi123 vf123=true:=by kernel_rfl
theorem tab124:mM Tryz.prog hh124 vf124.kept vf124.cons Tryz.f124=some vf124:=by kernel_rfl
theorem sig124:(⟨vf124.cons,vf124.quiet⟩:Sig)=⟨[],true⟩:=by kernel_rfl
theorem chk124:aH8 sgN vsN (sgN 124) fi124 vf124=true:=by kernel_rfl
theorem tab125:mM Tryz.prog hh125 vf125.kept vf125.cons Tryz.f125=some vf125:=by kernel_rfl
theorem sig125:(⟨vf125.cons,vf125.quiet⟩:Sig)=⟨[],true⟩:=by kernel_rfl
theorem chk125:aH8 sgN vsN (sgN 125) fi125 vf125=true:=by kernel_rfl
theorem tab129:mM Tryz.prog hh129 vf129.kept vf129.cons Tryz.f129=some vf129:=by kernel_rfl
theorem sig129:(⟨vf129.cons,vf129.quiet⟩:Sig)=⟨[],true⟩:=by kernel_rfl
theorem chk129:aH8 sgN vsN (sgN 129) fi129 vf129=true:=by kernel_rfl
theorem tab130:mM Tryz.prog hh130 vf130.kept vf130.cons Tryz.f130=some vf130:=by kernel_rfl
theorem sig130:(⟨vf130.cons,vf130.quiet⟩:Sig)=⟨[],true⟩:=by kernel_rfl
theorem chk130:aH8 sgN vsN (sgN 130) fi130 vf130=true:=by kernel_rfl
theorem tab131:mM Tryz.prog hh131 vf131.kept vf131.cons Tryz.f131=some vf131:=by kernel_rfl
theorem sig131:(⟨vf131.cons,vf131.quiet⟩:Sig)=⟨[],true⟩:=by kernel_rfl
theorem chk131:aH8 sgN vsN (sgN 131) fi131 vf131=true:=by kernel_rfl
end Go.Proofs.YtgfmodmeimhhpaaGreatDoor
